/-
  Contracts of functions of the program, walked over their shallow forms. No condition but the ones that each states.
-/
import Derived.Test.YtaaajfklikccaaaCodeC2
namespace Go.Proofs.Ytaaajfklikccaaa
open Go Go.Sh
set_option linter.unusedVariables false
set_option maxRecDepth 100000


/-- greenscreen/greenscreenlaw01.alive -/
theorem c_greenscreenlaw01_alive {w : World} :
    Calls Try.prog 9 #[] w fun e w' => e = .returned (.bool true) ∧ Upd no w w' := by
  refine F9.calls ?_
  unfold F9
  have l_tab := Gs.tabIn_length (Gs.swapL 37)
  have hF : Upd no w w := Fr.refl _ _ _
  refine callF_val (c_code_Byte) (fun w1 U1 => ?_)
  replace hF := hF.go0 U1
  rw [show Gs.byteOf 37 65 = some 193 by decide +kernel]
  refine opv_run (ext_t (by rfl)) ?_
  refine opv_run (ext_t (by rfl)) ?_
  refine callF_val (c_code_Byte) (fun w2 U2 => ?_)
  replace hF := hF.go0 U2
  rw [show Gs.byteOf 37 256 = none by decide +kernel]
  refine opv_run (ext_t (by rfl)) ?_
  refine opv_run (ext_t (by rfl)) ?_
  refine callF_ex (c_code_Bytes (by decide)) (fun v3 w3 D3 => ?_)
  rw [Gs.bytesOf_a] at D3
  obtain ⟨v19, rfl, own19, U3⟩ := D3
  replace hF := hF.go0 U3
  refine opv_run (ext_t (by rfl)) ?_
  refine opv_run (ext_t (by rfl)) ?_
  refine callF_ex (c_code_Bytes (by decide)) (fun v4 w4 D4 => ?_)
  rw [Gs.bytesOf_0] at D4
  obtain ⟨v23, rfl, own23, U4⟩ := D4
  replace own19 := own19.upd0 U4
  replace hF := hF.go0 U4
  refine opv_run (ext_t (by rfl)) ?_
  refine opv_run (ext_t (by rfl)) ?_
  refine callF_val (c_code_Table) (fun w5 U5 => ?_)
  replace own19 := own19.upd0 U5
  replace own23 := own23.upd0 U5
  replace hF := hF.go0 U5
  refine alloc_intro (cs := (vals .i32 (List.replicate 256 0)).toArray) (by kernel_rfl) (fun b6 w6 e6 h_b6 _ U6 => ?_)
  have na_own19_b6 := own19.apart e6
  have na_own23_b6 := own23.apart e6
  have ge_b6 : w.heap.size ≤ b6 := by have := hF.size; omega
  replace own19 := own19.upd0 U6
  replace own23 := own23.upd0 U6
  replace hF := hF.go0 U6
  clear e6
  refine storeAll_intro (n := 256) (by kernel_rfl) (by first | rfl | simp [vals_length, *]) (by first | rfl | simp [vals_length, *]) (by first | exact vals_one | assumption) h_b6 (fun w7 N7 _ U7 => ?_)
  replace own19 := own19.upd1 U7 na_own19_b6
  replace own23 := own23.upd1 U7 na_own23_b6
  replace h_b6 := N7
  replace hF := hF.go1 U7 ge_b6
  refine callF_val (c_code_Sign) (fun w8 U8 => ?_)
  replace own19 := own19.upd0 U8
  replace own23 := own23.upd0 U8
  replace h_b6 := U8.get0 h_b6
  replace hF := hF.go0 U8
  refine opv_T (eqI _ _ _ _ _) (by first | rfl | assumption | omega | decide +kernel) ?_
  refine gdtt ?_
  refine callF_val (c_code_Sign) (fun w9 U9 => ?_)
  replace own19 := own19.upd0 U9
  replace own23 := own23.upd0 U9
  replace h_b6 := U9.get0 h_b6
  replace hF := hF.go0 U9
  refine gdtt ?_
  refine opv_T (eqI _ _ _ _ _) (by first | rfl | assumption | omega | decide +kernel) ?_
  refine pickt ?_
  refine gdtt ?_
  refine callF_val (c_code_Sign) (fun w10 U10 => ?_)
  replace own19 := own19.upd0 U10
  replace own23 := own23.upd0 U10
  replace h_b6 := U10.get0 h_b6
  replace hF := hF.go0 U10
  refine gdtt ?_
  refine opv_T (eqI _ _ _ _ _) (by first | rfl | assumption | omega | decide +kernel) ?_
  refine pickt ?_
  refine gdtt ?_
  refine gdtt ?_
  refine opv_T (eqI _ _ _ _ _) (by first | rfl | assumption | omega | decide +kernel) ?_
  refine pickt ?_
  refine gdtt ?_
  refine pickt ?_
  refine gdtt ?_
  refine gdtt ?_
  refine opv_run (notF) ?_
  refine pickt ?_
  refine gdtt ?_
  refine buildSlice_intro (e := 5) (m := 1) (z := #[.int .u8 0]) (by kernel_rfl) (by kernel_rfl) (by rfl) (by decide) (by first | (simp [fillL, splice, repL, Value.cells]; done) | (simp [fillL, splice, repL, Value.cells]; rfl)) (fun b11 w11 e11 h_b11 _ U11 => ?_)
  have na_own19_b11 := own19.apart e11
  have na_own23_b11 := own23.apart e11
  have ne_b6_b11 : b6 ≠ b11 := by have := lt_get h_b6; omega
  have ge_b11 : w.heap.size ≤ b11 := by have := hF.size; omega
  replace own19 := own19.upd0 U11
  replace own23 := own23.upd0 U11
  replace h_b6 := U11.get0 h_b6
  replace hF := hF.go0 U11
  clear e11
  refine gdtt ?_
  refine callF_val (c_code_Text (bs := [193, 0, 129]) (Rd.of_blockL h_b11) (by decide) (by decide)) (fun w12 U12 => ?_)
  replace own19 := own19.upd0 U12
  replace own23 := own23.upd0 U12
  replace h_b6 := U12.get0 h_b6
  replace h_b11 := U12.get0 h_b11
  replace hF := hF.go0 U12
  refine gdtt ?_
  refine opv_T (eqS _ _ _ _) (by first | rfl | assumption | omega | decide +kernel) ?_
  refine pickt ?_
  refine gdtt ?_
  refine gdtt ?_
  obtain ⟨A19, l19, c19, rfl, hl19, rd19⟩ := own19.rd
  refine opv_run (convBS (e := 5) (xs := [74, 129]) (by kernel_rfl) (by kernel_rfl) (by kernel_rfl) rd19 (by simpa [vals] using hl19.symm)) ?_
  refine gdtt ?_
  refine opv_T (eqS _ _ _ _) (by first | rfl | assumption | omega | decide +kernel) ?_
  refine pickt ?_
  refine gdtt ?_
  refine gdtt ?_
  refine opv_T (eqI _ _ _ _ _) (by first | rfl | assumption | omega | decide +kernel) ?_
  refine pickt ?_
  refine gdtt ?_
  refine gdtt ?_
  refine opv_T (eqI _ _ _ _ _) (by first | rfl | assumption | omega | decide +kernel) ?_
  refine pickt ?_
  refine gdtt ?_
  refine opv_run (index_arrp (n := 256) (m := 1) (by kernel_rfl) (by omega) (by omega)) ?_
  refine gdtt ?_
  refine opv_run (ldC (v := .int .i32 65) (by kernel_rfl) h_b6 (by kernel_rfl)) ?_
  refine gdtt ?_
  refine opv_T (eqI _ _ _ _ _) (by first | rfl | assumption | omega | decide +kernel) ?_
  refine pickt ?_
  refine gdtt ?_
  refine callF_val (c_code_Upper) (fun w15 U15 => ?_)
  replace own19 := own19.upd0 U15
  replace own23 := own23.upd0 U15
  replace h_b6 := U15.get0 h_b6
  replace h_b11 := U15.get0 h_b11
  replace hF := hF.go0 U15
  refine gdtt ?_
  refine opv_T (eqI _ _ _ _ _) (by first | rfl | assumption | omega | decide +kernel) ?_
  refine pickt ?_
  refine gdtt ?_
  refine callF_val (c_code_Upper) (fun w16 U16 => ?_)
  replace own19 := own19.upd0 U16
  replace own23 := own23.upd0 U16
  replace h_b6 := U16.get0 h_b6
  replace h_b11 := U16.get0 h_b11
  replace hF := hF.go0 U16
  refine gdtt ?_
  refine opv_T (eqI _ _ _ _ _) (by first | rfl | assumption | omega | decide +kernel) ?_
  refine pickt ?_
  refine gdtt ?_
  refine callF_T (c_code_Digit) (by first | rfl | assumption | omega | decide +kernel) (fun w17 U17 => ?_)
  replace own19 := own19.upd0 U17
  replace own23 := own23.upd0 U17
  replace h_b6 := U17.get0 h_b6
  replace h_b11 := U17.get0 h_b11
  replace hF := hF.go0 U17
  refine pickt ?_
  refine gdtt ?_
  refine callF_F (c_code_Digit) (by first | rfl | assumption | omega | decide +kernel) (fun w18 U18 => ?_)
  replace own19 := own19.upd0 U18
  replace own23 := own23.upd0 U18
  replace h_b6 := U18.get0 h_b6
  replace h_b11 := U18.get0 h_b11
  replace hF := hF.go0 U18
  refine gdtt ?_
  refine opv_run (notF) ?_
  refine pickt ?_
  refine gdtt ?_
  refine callF_T (c_code_Graphic) (by first | rfl | assumption | omega | decide +kernel) (fun w19 U19 => ?_)
  replace own19 := own19.upd0 U19
  replace own23 := own23.upd0 U19
  replace h_b6 := U19.get0 h_b6
  replace h_b11 := U19.get0 h_b11
  replace hF := hF.go0 U19
  refine pickt ?_
  refine gdtt ?_
  refine callF_F (c_code_Graphic) (by first | rfl | assumption | omega | decide +kernel) (fun w20 U20 => ?_)
  replace own19 := own19.upd0 U20
  replace own23 := own23.upd0 U20
  replace h_b6 := U20.get0 h_b6
  replace h_b11 := U20.get0 h_b11
  replace hF := hF.go0 U20
  refine gdtt ?_
  refine opv_run (notF) ?_
  refine pickt ?_
  refine gdtt ?_
  refine callF_val (c_code_Special) (fun w21 U21 => ?_)
  replace own19 := own19.upd0 U21
  replace own23 := own23.upd0 U21
  replace h_b6 := U21.get0 h_b6
  replace h_b11 := U21.get0 h_b11
  replace hF := hF.go0 U21
  refine gdtt ?_
  refine opv_T (eqI _ _ _ _ _) (by first | rfl | assumption | omega | decide +kernel) ?_
  refine pickt ?_
  exact ⟨rfl, hF⟩

/-- greenscreen/greenscreenlaw01.CodeUppers -/
theorem c_greenscreenlaw01_CodeUppers {page b : Int} {w : World} (h0 : 0 ≤ b) (h1 : b < 256) :
    Calls Try.prog 7 #[.int .i64 page, .int .u8 b] w fun e w' => e = .returned (.bool true) ∧ Upd no w w' := by
  refine F7.calls ?_
  unfold F7
  have ur := Gs.upper_range (page := page) h0 h1
  have sr := Gs.sign_range (page := page) h0 h1
  have sr2 := Gs.sign_range (page := page) ur.1 ur.2
  have hF : Upd no w w := Fr.refl _ _ _
  refine callF_T (c_greenscreenlaw01_alive) (by first | rfl | assumption | omega | decide +kernel) (fun w1 U1 => ?_)
  replace hF := hF.go0 U1
  refine opv_run (notT) ?_
  refine condf ?_
  refine callF_val (c_code_Upper) (fun w2 U2 => ?_)
  replace hF := hF.go0 U2
  refine callF_val (c_code_Sign) (fun w3 U3 => ?_)
  replace hF := hF.go0 U3
  refine callF_val (c_code_Sign) (fun w4 U4 => ?_)
  replace hF := hF.go0 U4
  refine opv_dec (geq _ _ _ _) (fun h5 => ?_) (fun h5 => ?_)
  · refine gdtt ?_
    refine gdtt ?_
    refine opv_dec (leq _ _ _ _) (fun h6 => ?_) (fun h6 => ?_)
    · refine pickt ?_
      refine condt ?_
      first | refine opv_run (sub_i32 _ (by omega)) ?_ | refine opv_run (subI _ _ _ _) ?_
      refine opv_T (eqI _ _ _ _ _) ((Gs.upper_small (by omega) (by omega)).1) ?_
      refine gdtt ?_
      refine gdtt ?_
      refine gdtt ?_
      refine callF_val (c_code_Upper) (fun w7 U7 => ?_)
      replace hF := hF.go0 U7
      refine gdtt ?_
      refine gdtt ?_
      refine opv_T (eqI _ _ _ _ _) (Gs.upper_upper (by omega) (by omega)) ?_
      refine pickt ?_
      exact ⟨rfl, hF⟩
    · refine pickt ?_
      refine condf ?_
      refine opv_T (eqI _ _ _ _ _) (Gs.upper_id (by omega)) ?_
      exact ⟨rfl, hF⟩
  · refine gdft ?_
    refine gdft ?_
    refine pickf ?_
    refine condf ?_
    refine opv_T (eqI _ _ _ _ _) (Gs.upper_id (by omega)) ?_
    exact ⟨rfl, hF⟩

/-- greenscreen/greenscreenlaw01.CodeSigns -/
theorem c_greenscreenlaw01_CodeSigns {page b r : Int} {w : World} (h0 : 0 ≤ b) (h1 : b < 256) :
    Calls Try.prog 3 #[.int .i64 page, .int .u8 b, .int .i32 r] w fun e w' => e = .returned (.bool true) ∧ Upd no w w' := by
  refine F3.calls ?_
  unfold F3
  have l_tab := Gs.tabIn_length (Gs.swapL page)
  have sr := Gs.sign_range (page := page) h0 h1
  have hF : Upd no w w := Fr.refl _ _ _
  refine callF_T (c_greenscreenlaw01_alive) (by first | rfl | assumption | omega | decide +kernel) (fun w1 U1 => ?_)
  replace hF := hF.go0 U1
  refine opv_run (notT) ?_
  refine condf ?_
  refine callF_val (c_code_Byte) (fun w2 U2 => ?_)
  replace hF := hF.go0 U2
  refine opv_run (ext_t (by rfl)) ?_
  refine opv_run (ext_t (by rfl)) ?_
  refine callF_val (c_greenscreenref01_Byte) (fun w3 U3 => ?_)
  replace hF := hF.go0 U3
  refine opv_run (ext_t (by rfl)) ?_
  refine opv_run (ext_t (by rfl)) ?_
  refine callF_val (c_code_Table) (fun w4 U4 => ?_)
  replace hF := hF.go0 U4
  refine alloc_intro (cs := (vals .i32 (List.replicate 256 0)).toArray) (by kernel_rfl) (fun b5 w5 e5 h_b5 _ U5 => ?_)
  have ge_b5 : w.heap.size ≤ b5 := by have := hF.size; omega
  replace hF := hF.go0 U5
  clear e5
  refine storeAll_intro (n := 256) (by kernel_rfl) (by first | rfl | simp [vals_length, *]) (by first | rfl | simp [vals_length, *]) (by first | exact vals_one | assumption) h_b5 (fun w6 N6 _ U6 => ?_)
  replace h_b5 := N6
  replace hF := hF.go1 U6 ge_b5
  refine join_cut (fun g w' => (Upd no w w')) (fun J1 hJ1 => ?_) (fun gJ1 wJ1 hI => ?_)
  · refine loop_intro (fun g w' => ∃ (k : Nat), (g 29 = .int .i64 (k : Int)) ∧ (k ≤ 256) ∧ (w'.heap[b5]? = some (.cells (vals .i32 (Gs.tab page)).toArray 25 (0, 0))) ∧ (Upd no w w')) (fun g w' => 256 - (RowKit.intOf (g 29)).toNat) ?_ (fun g2 wl2 hI => ?_)
    · exact ⟨0, (by first | rfl | exact g29), Nat.zero_le _, h_b5, hF⟩
    · obtain ⟨k, g29, hk, h_b5, hF⟩ := hI
      try rw [g29]
      refine opv_dec (lss _ _ _ _) (fun h7 => ?_) (fun h7 => ?_)
      · refine condt ?_
        refine drawn_ext (fun w8 U8 => ?_)
        replace h_b5 := U8.get0 h_b5
        replace hF := hF.go0 U8
        refine qidx_arrint (n := 256) (by kernel_rfl) (by kernel_rfl) h_b5 (by first | assumption | (simp [*]; done)) (by omega) (by omega) (fun x9 hx9 => ?_)
        try simp only [Int.toNat_natCast] at hx9
        first | refine qop_run (fun w' hw' => (conv_u8 (by kernel_rfl) (by kernel_rfl) (by omega))) ?_ | refine qop_run (fun w' hw' => (convII (k := .u8) (by kernel_rfl) (by kernel_rfl))) ?_
        refine qop_call (fun w' hw' => c_greenscreenref01_Sign) ?_
        refine qop_F (fun w' hw' => (neI _ _ _ _ _)) ((fun hne => hne (Gs.tab_get hx9).2)) ?_
        refine ext_intro (fun w11 U11 => ?_)
        replace h_b5 := U11.get0 h_b5
        replace hF := hF.go0 U11
        refine condf ?_
        first | refine opv_run (add_i64 _ (by omega)) ?_ | refine opv_run (addI _ _ _ _) ?_
        exact ⟨⟨k + 1, (by first | rfl | exact g29), by omega, h_b5, hF⟩, cnt_lt (by first | rfl | exact g29) rfl (by omega)⟩
      · refine condf ?_
        refine hJ1 _ _ ?_
        exact hF
  · have hF := hI
    refine callF_val (c_code_Sign) (fun w12 U12 => ?_)
    replace hF := hF.go0 U12
    refine callF_val (c_greenscreenref01_Sign) (fun w13 U13 => ?_)
    replace hF := hF.go0 U13
    refine opv_T (eqI _ _ _ _ _) (by first | rfl | assumption | omega | decide +kernel) ?_
    refine gdtt ?_
    refine gdtt ?_
    refine gdtt ?_
    refine opv_T (eqI _ _ _ _ _) (by first | rfl | assumption | omega | decide +kernel) ?_
    refine pickt ?_
    refine gdtt ?_
    refine gdtt ?_
    refine gdtt ?_
    refine opv_T (eqB _ _ (by kernel_rfl) _ _) (by first | rfl | assumption | omega | decide +kernel) ?_
    refine pickt ?_
    refine gdtt ?_
    refine gdtt ?_
    refine gdtt ?_
    refine callF_val (c_code_Upper) (fun w14 U14 => ?_)
    replace hF := hF.go0 U14
    refine gdtt ?_
    refine gdtt ?_
    refine gdtt ?_
    refine callF_val (c_greenscreenref01_Upper) (fun w15 U15 => ?_)
    replace hF := hF.go0 U15
    refine gdtt ?_
    refine opv_T (eqI _ _ _ _ _) (by first | rfl | assumption | omega | decide +kernel) ?_
    refine pickt ?_
    refine gdtt ?_
    refine gdtt ?_
    refine callF_val (c_code_Digit) (fun w16 U16 => ?_)
    replace hF := hF.go0 U16
    refine gdtt ?_
    refine gdtt ?_
    refine opv_dec (geq _ _ _ _) (fun h17 => ?_) (fun h17 => ?_)
    · refine gdtt ?_
      refine gdtt ?_
      refine gdtt ?_
      refine opv_run (leq _ _ _ _) ?_
      refine gdtt ?_
      refine pickt ?_
      refine gdtt ?_
      refine opv_T (eqB _ _ (by kernel_rfl) _ _) (by first | exact decide_eq_false (by omega) | (rw [decide_eq_decide]; omega)) ?_
      refine pickt ?_
      refine gdtt ?_
      refine gdtt ?_
      refine callF_val (c_code_Graphic) (fun w18 U18 => ?_)
      replace hF := hF.go0 U18
      refine gdtt ?_
      refine gdtt ?_
      refine callF_val (c_greenscreenref01_Seen) (fun w19 U19 => ?_)
      replace hF := hF.go0 U19
      refine gdtt ?_
      refine opv_T (eqB _ _ (by kernel_rfl) _ _) (by first | rfl | assumption | omega | decide +kernel) ?_
      refine pickt ?_
      refine gdtt ?_
      refine gdtt ?_
      refine callF_val (c_code_Special) (fun w20 U20 => ?_)
      replace hF := hF.go0 U20
      refine gdtt ?_
      refine gdtt ?_
      first | refine opv_run (conv_i32 (by kernel_rfl) (by kernel_rfl) (by omega)) ?_ | refine opv_run (convII (k := .i32) (by kernel_rfl) (by kernel_rfl)) ?_
      refine gdtt ?_
      first | refine opv_run (add_i32 _ (by omega)) ?_ | refine opv_run (addI _ _ _ _) ?_
      refine gdtt ?_
      refine opv_T (eqI _ _ _ _ _) (by omega) ?_
      refine pickt ?_
      exact ⟨rfl, hF⟩
    · refine gdtt ?_
      refine gdft ?_
      refine gdft ?_
      refine gdtt ?_
      refine pickf ?_
      refine gdtt ?_
      refine opv_T (eqB _ _ (by kernel_rfl) _ _) (by first | exact decide_eq_false (by omega) | (rw [decide_eq_decide]; omega)) ?_
      refine pickt ?_
      refine gdtt ?_
      refine gdtt ?_
      refine callF_val (c_code_Graphic) (fun w22 U22 => ?_)
      replace hF := hF.go0 U22
      refine gdtt ?_
      refine gdtt ?_
      refine callF_val (c_greenscreenref01_Seen) (fun w23 U23 => ?_)
      replace hF := hF.go0 U23
      refine gdtt ?_
      refine opv_T (eqB _ _ (by kernel_rfl) _ _) (by first | rfl | assumption | omega | decide +kernel) ?_
      refine pickt ?_
      refine gdtt ?_
      refine gdtt ?_
      refine callF_val (c_code_Special) (fun w24 U24 => ?_)
      replace hF := hF.go0 U24
      refine gdtt ?_
      refine gdtt ?_
      first | refine opv_run (conv_i32 (by kernel_rfl) (by kernel_rfl) (by omega)) ?_ | refine opv_run (convII (k := .i32) (by kernel_rfl) (by kernel_rfl)) ?_
      refine gdtt ?_
      first | refine opv_run (add_i32 _ (by omega)) ?_ | refine opv_run (addI _ _ _ _) ?_
      refine gdtt ?_
      refine opv_T (eqI _ _ _ _ _) (by omega) ?_
      refine pickt ?_
      exact ⟨rfl, hF⟩

/-- greenscreen/greenscreenlaw01.CodeTexts -/
theorem c_greenscreenlaw01_CodeTexts {page : Int} {A : Option Addr} {len c : Nat} {bs : List Int} {s : ByteArray} {w : World} (rd1 : Rd w A (vals .u8 bs)) (hbs : Bs bs) (hl : len = bs.length) :
    Calls Try.prog 4 #[.int .i64 page, .slice A len c, .string s] w fun e w' => e = .returned (.bool true) ∧ Upd no w w' := by
  refine F4.calls ?_
  unfold F4
  subst hl
  have lt_rd1 := Rd.lt rd1
  have hF : Upd no w w := Fr.refl _ _ _
  refine callF_T (c_greenscreenlaw01_alive) (by first | rfl | assumption | omega | decide +kernel) (fun w1 U1 => ?_)
  replace rd1 := rd1.upd0 U1
  replace hF := hF.go0 U1
  refine opv_run (notT) ?_
  refine condf ?_
  refine opv_run (len_sl (by kernel_rfl) _ _ _) ?_
  refine opv_dec (gtr _ _ _ _) (fun h2 => ?_) (fun h2 => ?_)
  · refine gdtf ?_
    refine gdtf ?_
    refine gdtf ?_
    refine pickt ?_
    refine condt ?_
    exact ⟨rfl, hF⟩
  · refine gdff ?_
    refine gdff ?_
    refine opv_run (len_str (by kernel_rfl) _) ?_
    refine gdff ?_
    refine opv_dec (gtr _ _ _ _) (fun h4 => ?_) (fun h4 => ?_)
    · refine pickf ?_
      refine condt ?_
      exact ⟨rfl, hF⟩
    · refine pickf ?_
      refine condf ?_
      refine callF_ex (c_code_Bytes (by omega)) (fun v6 w6 D6 => ?_)
      obtain ⟨v24, rfl, own24, U6⟩ := D6
      obtain ⟨A24, c24, rfl, rd24⟩ := own24.rd1
      replace rd1 := rd1.upd0 U6
      replace hF := hF.go0 U6
      refine opv_run (ext_t (by rfl)) ?_
      refine opv_run (ext_t (by rfl)) ?_
      refine callF_ex (c_greenscreenref01_Bytes (by omega)) (fun v7 w7 D7 => ?_)
      obtain ⟨v30, rfl, own30, U7⟩ := D7
      obtain ⟨A30, c30, rfl, rd30⟩ := own30.rd1
      have hbl := Gs.bytesOf_len s page
      replace rd1 := rd1.upd0 U7
      replace rd24 := rd24.upd0 U7
      replace hF := hF.go0 U7
      refine opv_run (ext_t (by rfl)) ?_
      refine opv_run (ext_t (by rfl)) ?_
      refine callF_val (c_code_Text rd1 hbs (by omega)) (fun w8 U8 => ?_)
      replace rd1 := rd1.upd0 U8
      replace rd24 := rd24.upd0 U8
      replace rd30 := rd30.upd0 U8
      replace hF := hF.go0 U8
      refine callF_val (c_greenscreenref01_Text rd1 hbs (by omega)) (fun w9 U9 => ?_)
      replace rd1 := rd1.upd0 U9
      replace rd24 := rd24.upd0 U9
      replace rd30 := rd30.upd0 U9
      replace hF := hF.go0 U9
      refine opv_T (eqS _ _ _ _) (by first | rfl | assumption | omega | decide +kernel) ?_
      refine gdtt ?_
      refine gdtt ?_
      refine gdtt ?_
      refine opv_T (eqI _ _ _ _ _) (by first | rfl | assumption | omega | decide +kernel) ?_
      refine pickt ?_
      refine gdtt ?_
      refine gdtt ?_
      refine gdtt ?_
      refine callF_T (c_greenscreenref01_Same rd24 rd30 (by omega)) (decide_eq_true rfl) (fun w10 U10 => ?_)
      replace rd1 := rd1.upd0 U10
      replace rd24 := rd24.upd0 U10
      replace rd30 := rd30.upd0 U10
      replace hF := hF.go0 U10
      refine pickt ?_
      exact ⟨rfl, hF⟩

/-- greenscreen/greenscreenlaw01.CodeTurns -/
theorem c_greenscreenlaw01_CodeTurns {page a b : Int} {w : World} (h0 : 0 ≤ a) (h1 : a < 256) (k0 : 0 ≤ b) (k1 : b < 256) :
    Calls Try.prog 5 #[.int .i64 page, .int .u8 a, .int .u8 b] w fun e w' => e = .returned (.bool true) ∧ Upd no w w' := by
  refine F5.calls ?_
  unfold F5
  have l_tab := Gs.tabIn_length (Gs.swapL page)
  have l_tab2 := Gs.tabIn_length (Gs.swapL 37)
  have l_tabp : (Gs.tab page).length = 256 := l_tab
  have hF : Upd no w w := Fr.refl _ _ _
  refine callF_T (c_greenscreenlaw01_alive) (by first | rfl | assumption | omega | decide +kernel) (fun w1 U1 => ?_)
  replace hF := hF.go0 U1
  refine opv_run (notT) ?_
  refine condf ?_
  refine callF_val (c_code_Sign) (fun w2 U2 => ?_)
  replace hF := hF.go0 U2
  refine callF_val (c_code_Byte) (fun w3 U3 => ?_)
  replace hF := hF.go0 U3
  rw [Gs.byteOf_sign h0 h1]
  refine opv_run (ext_t (by rfl)) ?_
  refine opv_run (ext_t (by rfl)) ?_
  refine opv_F (neI _ _ _ _ _) (fun h => h (by simp only [Option.getD_some]; omega)) ?_
  refine gdff ?_
  refine gdff ?_
  refine opv_run (notT) ?_
  refine pickf ?_
  refine gdff ?_
  refine gdff ?_
  refine gdff ?_
  refine callF_val (c_code_Sign) (fun w4 U4 => ?_)
  replace hF := hF.go0 U4
  refine gdff ?_
  refine gdff ?_
  refine gdff ?_
  refine callF_val (c_code_Sign) (fun w5 U5 => ?_)
  replace hF := hF.go0 U5
  refine gdff ?_
  refine opv_run (eqI _ _ _ _ _) ?_
  refine gdff ?_
  refine gdff ?_
  refine gdff ?_
  refine opv_run (eqI _ _ _ _ _) ?_
  refine gdff ?_
  refine opv_F (neB _ _ (by kernel_rfl) _ _) (fun h => h (by rw [decide_eq_decide]; exact ⟨fun e => Gs.sign_inj h0 h1 k0 k1 e, fun e => by rw [e]⟩)) ?_
  refine pickf ?_
  refine condf ?_
  refine callF_val (c_code_Table) (fun w6 U6 => ?_)
  replace hF := hF.go0 U6
  refine callF_val (c_code_Table) (fun w7 U7 => ?_)
  replace hF := hF.go0 U7
  refine alloc_intro (cs := (vals .i32 (List.replicate 256 0)).toArray) (by kernel_rfl) (fun b8 w8 e8 h_b8 _ U8 => ?_)
  have ge_b8 : w.heap.size ≤ b8 := by have := hF.size; omega
  replace hF := hF.go0 U8
  clear e8
  refine alloc_intro (cs := (vals .i32 (List.replicate 256 0)).toArray) (by kernel_rfl) (fun b9 w9 e9 h_b9 _ U9 => ?_)
  have ne_b8_b9 : b8 ≠ b9 := by have := lt_get h_b8; omega
  have ge_b9 : w.heap.size ≤ b9 := by have := hF.size; omega
  replace h_b8 := U9.get0 h_b8
  replace hF := hF.go0 U9
  clear e9
  refine storeAll_intro (n := 256) (by kernel_rfl) (by first | rfl | simp [vals_length, *]) (by first | rfl | simp [vals_length, *]) (by first | exact vals_one | assumption) h_b8 (fun w10 N10 _ U10 => ?_)
  replace h_b8 := N10
  replace h_b9 := U10.get1 h_b9 (Ne.symm ne_b8_b9)
  replace hF := hF.go1 U10 ge_b8
  refine storeAll_intro (n := 256) (by kernel_rfl) (by first | rfl | simp [vals_length, *]) (by first | rfl | simp [vals_length, *]) (by first | exact vals_one | assumption) h_b9 (fun w11 N11 _ U11 => ?_)
  replace h_b8 := U11.get1 h_b8 ne_b8_b9
  replace h_b9 := N11
  replace hF := hF.go1 U11 ge_b9
  refine join_cut (fun g w' => (g 9 = .int .i64 (Gs.diffs page 256 : Nat)) ∧ (Upd no w w')) (fun J1 hJ1 => ?_) (fun gJ1 wJ1 hI => ?_)
  · refine loop_intro (fun g w' => ∃ (k : Nat), (g 46 = .int .i64 (k : Int)) ∧ (k ≤ 256) ∧ (g 9 = .int .i64 (Gs.diffs page k : Nat)) ∧ (w'.heap[b8]? = some (.cells (vals .i32 (Gs.tab page)).toArray 25 (0, 0))) ∧ (w'.heap[b9]? = some (.cells (vals .i32 (Gs.tab 37)).toArray 25 (0, 0))) ∧ (Upd no w w')) (fun g w' => 256 - (RowKit.intOf (g 46)).toNat) ?_ (fun g2 wl2 hI => ?_)
    · exact ⟨0, (by first | rfl | exact g46), Nat.zero_le _, (by first | rfl | exact g9), h_b8, h_b9, hF⟩
    · obtain ⟨k, g46, hk, g9, h_b8, h_b9, hF⟩ := hI
      try rw [g46]
      try rw [g9]
      refine opv_dec (lss _ _ _ _) (fun h12 => ?_) (fun h12 => ?_)
      · refine condt ?_
        refine join_cut (fun g w' => (g 9 = .int .i64 (Gs.diffs page (k + 1) : Nat)) ∧ (w'.heap[b8]? = some (.cells (vals .i32 (Gs.tab page)).toArray 25 (0, 0))) ∧ (w'.heap[b9]? = some (.cells (vals .i32 (Gs.tab 37)).toArray 25 (0, 0))) ∧ (Upd no w w')) (fun J3 hJ3 => ?_) (fun gJ3 wJ3 hI => ?_)
        · refine drawn_ext (fun w13 U13 => ?_)
          replace h_b8 := U13.get0 h_b8
          replace h_b9 := U13.get0 h_b9
          replace hF := hF.go0 U13
          refine qidx_arrint (n := 256) (by kernel_rfl) (by kernel_rfl) h_b8 (by first | assumption | (simp [*]; done)) (by omega) (by omega) (fun x14 hx14 => ?_)
          try simp only [Int.toNat_natCast] at hx14
          obtain ⟨q51, rfl⟩ := Gs.tab_get hx14
          have dl := Gs.diffs_le page k
          refine qidx_arrint (n := 256) (by kernel_rfl) (by kernel_rfl) h_b9 (by first | assumption | (simp [*]; done)) (by omega) (by omega) (fun x15 hx15 => ?_)
          try simp only [Int.toNat_natCast] at hx15
          obtain ⟨q54, rfl⟩ := Gs.tab_get hx15
          refine qop_dec (fun w' hw' => (neI _ _ _ _ _)) (fun h16 => ?_) (fun h16 => ?_)
          · refine ext_intro (fun w17 U17 => ?_)
            replace h_b8 := U17.get0 h_b8
            replace h_b9 := U17.get0 h_b9
            replace hF := hF.go0 U17
            refine condt ?_
            first | refine opv_run (add_i64 _ (by omega)) ?_ | refine opv_run (addI _ _ _ _) ?_
            refine hJ3 _ _ ?_
            exact ⟨(by first | (rw [Gs.diffs_step, if_neg (by omega)]; rfl) | (rw [Gs.diffs_step, if_pos (by omega)]; exact g9)), h_b8, h_b9, hF⟩
          · refine ext_intro (fun w18 U18 => ?_)
            replace h_b8 := U18.get0 h_b8
            replace h_b9 := U18.get0 h_b9
            replace hF := hF.go0 U18
            refine condf ?_
            refine hJ3 _ _ ?_
            exact ⟨(by first | (rw [Gs.diffs_step, if_neg (by omega)]; rfl) | (rw [Gs.diffs_step, if_pos (by omega)]; exact g9)), h_b8, h_b9, hF⟩
        · obtain ⟨g9, h_b8, h_b9, hF⟩ := hI
          try rw [g9]
          refine idx_arrint (n := 256) (by kernel_rfl) (by kernel_rfl) h_b8 (by first | assumption | (simp [*]; done)) (by omega) (by omega) (fun x19 hx19 => ?_)
          try simp only [Int.toNat_natCast] at hx19
          obtain ⟨q60, rfl⟩ := Gs.tab_get hx19
          have r60 := Gs.sign_range (page := page) (b := (k : Nat)) (by omega) (by omega)
          refine opv_F (lss _ _ _ _) (by omega) ?_
          refine gdff ?_
          refine gdff ?_
          refine opv_run (index_arrp (n := 256) (m := 1) (by kernel_rfl) (by omega) (by omega)) ?_
          refine gdff ?_
          refine ld_arrint (by kernel_rfl) h_b8 (by first | omega | (simp [*]; omega)) (fun x20 hx20 => ?_)
          try simp only [Int.toNat_natCast] at hx20
          obtain ⟨q65, rfl⟩ := Gs.tab_get hx20
          refine gdff ?_
          refine opv_F (gtr _ _ _ _) (by omega) ?_
          refine pickf ?_
          refine condf ?_
          first | refine opv_run (add_i64 _ (by omega)) ?_ | refine opv_run (addI _ _ _ _) ?_
          exact ⟨⟨k + 1, (by first | rfl | exact g46), by omega, (by first | rfl | exact g9), h_b8, h_b9, hF⟩, cnt_lt (by first | rfl | exact g46) rfl (by omega)⟩
      · refine condf ?_
        refine hJ1 _ _ ?_
        exact ⟨(by rw [show k = 256 by omega] at g9; exact g9), hF⟩
  · obtain ⟨g9, hF⟩ := hI
    try rw [g9]
    refine opv_T (leq _ _ _ _) (by have := (Gs.diffs_all page).1; omega) ?_
    refine gdtt ?_
    refine gdtt ?_
    refine opv_dec (eqI _ _ _ _ _) (fun h21 => ?_) (fun h21 => ?_)
    · refine gdtt ?_
      refine gdtf ?_
      refine gdtf ?_
      refine gdtt ?_
      refine pickt ?_
      refine gdtt ?_
      refine gdtt ?_
      refine opv_run (gtr _ _ _ _) ?_
      refine gdtt ?_
      refine opv_T (eqB _ _ (by kernel_rfl) _ _) (by first | exact (decide_eq_true (by have := (Gs.diffs_all page).2; omega)).symm | (rw [decide_eq_decide]; have := (Gs.diffs_all page).2; omega)) ?_
      refine pickt ?_
      exact ⟨rfl, hF⟩
    · refine gdtt ?_
      refine gdff ?_
      refine gdff ?_
      refine opv_run (eqI _ _ _ _ _) ?_
      refine gdtt ?_
      refine pickf ?_
      refine gdtt ?_
      refine gdtt ?_
      refine opv_run (gtr _ _ _ _) ?_
      refine gdtt ?_
      refine opv_T (eqB _ _ (by kernel_rfl) _ _) (by first | exact (decide_eq_true (by have := (Gs.diffs_all page).2; omega)).symm | (rw [decide_eq_decide]; have := (Gs.diffs_all page).2; omega)) ?_
      refine pickt ?_
      exact ⟨rfl, hF⟩

end Go.Proofs.Ytaaajfklikccaaa
