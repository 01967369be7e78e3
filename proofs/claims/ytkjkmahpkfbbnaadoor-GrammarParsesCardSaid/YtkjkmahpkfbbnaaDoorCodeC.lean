/-
  Contracts of functions of the program, walked over their shallow forms. No condition but the ones that each states.
-/
import Derived.Test.YtkjkmahpkfbbnaaDoorF
import Derived.Test.YtkjkmahpkfbbnaaDoorFp
import Derived.Test.YtkjkmahpkfbbnaaDoorMem
import Derived.Test.YtkjkmahpkfbbnaaDoorCodeModel
import Derived.Test.YtkjkmahpkfbbnaaDoorRow
namespace Go.Proofs.YtkjkmahpkfbbnaaDoor
open Go Go.Sh
set_option linter.unusedVariables false
set_option maxRecDepth 100000


theorem c_code_plain {w : World} : Calls Tryd.prog 66 #[] w fun e w' => e = .returned (.agg (vals .u8 Gs.plainL).toArray) ∧ Upd no w w' := by
  refine F66.calls ?_
  unfold F66
  refine alloc_intro (cs := (vals .u8 (List.replicate 256 0)).toArray) (by kernel_rfl) fun b w1 e1 h1 _ U1 => ?_
  refine opv_run (build_arr (n := 256) (m := 1) (z := (vals .u8 (List.replicate 256 0)).toArray) (cs := vals .u8 Gs.plainL) (by kernel_rfl) (by kernel_rfl) (by kernel_rfl)) ?_
  refine storeAll_intro (n := 256) (by kernel_rfl) (by kernel_rfl) (by kernel_rfl) vals_one h1 fun w2 h2 _ U2 => ?_
  refine ldv_run (ldAll (n := 256) (by kernel_rfl) h2 (by kernel_rfl)) ?_
  exact ⟨rfl, U1.go1 U2 (by omega)⟩

/-- greenscreen/code.Graphic -/
theorem c_code_Graphic {b : Int} {w : World} :
    Calls Tryd.prog 51 #[.int .u8 b] w fun e w' => e = .returned (.bool (decide (64 ≤ b ∧ b ≤ 254))) ∧ Upd no w w' := by
  refine F51.calls ?_
  unfold F51
  have hF : Upd no w w := Fr.refl _ _ _
  refine opv_dec (geq _ _ _ _) (fun h1 => ?_) (fun h1 => ?_)
  · refine gdtt ?_
    refine gdtt ?_
    refine opv_run (leq _ _ _ _) ?_
    refine pickt ?_
    first | exact ⟨retB (by omega), hF⟩ | exact ⟨retT (by omega), hF⟩ | exact ⟨retF (by omega), hF⟩
  · refine gdft ?_
    refine gdft ?_
    refine pickf ?_
    first | exact ⟨retB (by omega), hF⟩ | exact ⟨retT (by omega), hF⟩ | exact ⟨retF (by omega), hF⟩

/-- greenscreen/code.Special -/
theorem c_code_Special {b : Int} {w : World} (h0 : 0 ≤ b := by omega) (h1 : b < 256 := by omega) :
    Calls Tryd.prog 52 #[.int .u8 b] w fun e w' => e = .returned (.int .i32 (57344 + b)) ∧ Upd no w w' := by
  refine F52.calls ?_
  unfold F52
  have hF : Upd no w w := Fr.refl _ _ _
  first | refine opv_run (conv_i32 (by kernel_rfl) (by kernel_rfl) (by omega)) ?_ | refine opv_run (convII (k := .i32) (by kernel_rfl) (by kernel_rfl)) ?_
  first | refine opv_run (add_i32 _ (by omega)) ?_ | refine opv_run (addI _ _ _ _) ?_
  exact ⟨rfl, hF⟩

/-- greenscreen/code.swaps -/
theorem c_code_swaps {page : Int} {w : World} :
    Calls Tryd.prog 65 #[.int .i64 page] w fun e w' => ∃ v, e = .returned v ∧ ∃ A c, v = .slice A (Gs.swapL page).length c ∧ Upd no w w' ∧ Rd w' A (prs (Gs.swapL page)) ∧ GeA A (prs (Gs.swapL page)) w.heap.size := by
  refine F65.calls ?_
  unfold F65
  have hF : Upd no w w := Fr.refl _ _ _
  refine opv_dec (eqI _ _ _ _ _) (fun h1 => ?_) (fun h1 => ?_)
  · refine condt ?_
    refine opv_run (build_eq (l := [(0, 1), (1, 1)]) (z := #[.int .u8 0, .int .u8 0]) (by kernel_rfl) (by first | (simp [fillL, splice, repL, Value.cells]; done) | (simp [fillL, splice, repL, Value.cells]; rfl))) ?_
    refine opv_run (build_eq (l := [(0, 1), (1, 1)]) (z := #[.int .u8 0, .int .u8 0]) (by kernel_rfl) (by first | (simp [fillL, splice, repL, Value.cells]; done) | (simp [fillL, splice, repL, Value.cells]; rfl))) ?_
    refine opv_run (build_eq (l := [(0, 1), (1, 1)]) (z := #[.int .u8 0, .int .u8 0]) (by kernel_rfl) (by first | (simp [fillL, splice, repL, Value.cells]; done) | (simp [fillL, splice, repL, Value.cells]; rfl))) ?_
    refine opv_run (build_eq (l := [(0, 1), (1, 1)]) (z := #[.int .u8 0, .int .u8 0]) (by kernel_rfl) (by first | (simp [fillL, splice, repL, Value.cells]; done) | (simp [fillL, splice, repL, Value.cells]; rfl))) ?_
    refine opv_run (build_eq (l := [(0, 1), (1, 1)]) (z := #[.int .u8 0, .int .u8 0]) (by kernel_rfl) (by first | (simp [fillL, splice, repL, Value.cells]; done) | (simp [fillL, splice, repL, Value.cells]; rfl))) ?_
    refine opv_run (build_eq (l := [(0, 1), (1, 1)]) (z := #[.int .u8 0, .int .u8 0]) (by kernel_rfl) (by first | (simp [fillL, splice, repL, Value.cells]; done) | (simp [fillL, splice, repL, Value.cells]; rfl))) ?_
    refine opv_run (build_eq (l := [(0, 1), (1, 1)]) (z := #[.int .u8 0, .int .u8 0]) (by kernel_rfl) (by first | (simp [fillL, splice, repL, Value.cells]; done) | (simp [fillL, splice, repL, Value.cells]; rfl))) ?_
    refine buildSlice_intro (e := 121) (m := 2) (z := #[.int .u8 0, .int .u8 0]) (by kernel_rfl) (by kernel_rfl) (by rfl) (by decide) (by first | (simp [fillL, splice, repL, Value.cells]; done) | (simp [fillL, splice, repL, Value.cells]; rfl)) (fun b2 w2 e2 h_b2 _ U2 => ?_)
    have ge_b2 : w.heap.size ≤ b2 := by have := hF.size; omega
    replace hF := hF.go0 U2
    clear e2
    first | (subst_vars; exact ⟨_, rfl, _, _, rfl, hF, Rd.of_block (by assumption), GeA.of_block (by assumption)⟩) | exact ⟨_, rfl, none, 0, by simp [Gs.swapL, *], hF, by simp [Gs.swapL, *, prs, Rd.nil], .inl (by simp [Gs.swapL, *, prs])⟩
  · refine condf ?_
    refine opv_dec (eqI _ _ _ _ _) (fun h4 => ?_) (fun h4 => ?_)
    · refine condt ?_
      refine opv_run (build_eq (l := [(0, 1), (1, 1)]) (z := #[.int .u8 0, .int .u8 0]) (by kernel_rfl) (by first | (simp [fillL, splice, repL, Value.cells]; done) | (simp [fillL, splice, repL, Value.cells]; rfl))) ?_
      refine opv_run (build_eq (l := [(0, 1), (1, 1)]) (z := #[.int .u8 0, .int .u8 0]) (by kernel_rfl) (by first | (simp [fillL, splice, repL, Value.cells]; done) | (simp [fillL, splice, repL, Value.cells]; rfl))) ?_
      refine opv_run (build_eq (l := [(0, 1), (1, 1)]) (z := #[.int .u8 0, .int .u8 0]) (by kernel_rfl) (by first | (simp [fillL, splice, repL, Value.cells]; done) | (simp [fillL, splice, repL, Value.cells]; rfl))) ?_
      refine opv_run (build_eq (l := [(0, 1), (1, 1)]) (z := #[.int .u8 0, .int .u8 0]) (by kernel_rfl) (by first | (simp [fillL, splice, repL, Value.cells]; done) | (simp [fillL, splice, repL, Value.cells]; rfl))) ?_
      refine opv_run (build_eq (l := [(0, 1), (1, 1)]) (z := #[.int .u8 0, .int .u8 0]) (by kernel_rfl) (by first | (simp [fillL, splice, repL, Value.cells]; done) | (simp [fillL, splice, repL, Value.cells]; rfl))) ?_
      refine opv_run (build_eq (l := [(0, 1), (1, 1)]) (z := #[.int .u8 0, .int .u8 0]) (by kernel_rfl) (by first | (simp [fillL, splice, repL, Value.cells]; done) | (simp [fillL, splice, repL, Value.cells]; rfl))) ?_
      refine buildSlice_intro (e := 121) (m := 2) (z := #[.int .u8 0, .int .u8 0]) (by kernel_rfl) (by kernel_rfl) (by rfl) (by decide) (by first | (simp [fillL, splice, repL, Value.cells]; done) | (simp [fillL, splice, repL, Value.cells]; rfl)) (fun b5 w5 e5 h_b5 _ U5 => ?_)
      have ge_b5 : w.heap.size ≤ b5 := by have := hF.size; omega
      replace hF := hF.go0 U5
      clear e5
      first | (subst_vars; exact ⟨_, rfl, _, _, rfl, hF, Rd.of_block (by assumption), GeA.of_block (by assumption)⟩) | exact ⟨_, rfl, none, 0, by simp [Gs.swapL, *], hF, by simp [Gs.swapL, *, prs, Rd.nil], .inl (by simp [Gs.swapL, *, prs])⟩
    · refine condf ?_
      first | (subst_vars; exact ⟨_, rfl, _, _, rfl, hF, Rd.of_block (by assumption), GeA.of_block (by assumption)⟩) | exact ⟨_, rfl, none, 0, by simp [Gs.swapL, *], hF, by simp [Gs.swapL, *, prs, Rd.nil], .inl (by simp [Gs.swapL, *, prs])⟩

/-- greenscreen/code.Sign -/
theorem c_code_Sign {page b : Int} {w : World} (h0 : 0 ≤ b := by omega) (h1 : b < 256 := by omega) :
    Calls Tryd.prog 53 #[.int .i64 page, .int .u8 b] w fun e w' => e = .returned (.int .i32 (Gs.sign page b)) ∧ Upd no w w' := by
  refine F53.calls ?_
  unfold F53
  have l_plain := Gs.plainL_length
  have l_sw := Gs.swapL_le page
  have hF : Upd no w w := Fr.refl _ _ _
  refine join_cut (fun g w' => ((Gs.swapL page).find? (fun p => p.1 == b) = none) ∧ (Upd no w w')) (fun J1 hJ1 => ?_) (fun gJ1 wJ1 hI => ?_)
  · refine callF_ex (c_code_swaps) (fun v1 w1 D1 => ?_)
    obtain ⟨A8, c8, rfl, U1, rd8, gA8⟩ := D1
    replace hF := hF.go0 U1
    refine opv_run (len_sl (by kernel_rfl) _ _ _) ?_
    refine loop_intro (fun g w' => ∃ (k : Nat), (g 10 = .int .i64 (k : Int)) ∧ (k ≤ (Gs.swapL page).length) ∧ (((Gs.swapL page).take k).find? (fun p => p.1 == b) = none) ∧ (Rd w' A8 (prs (Gs.swapL page))) ∧ (Upd no w w')) (fun g w' => (Gs.swapL page).length - (RowKit.intOf (g 10)).toNat) ?_ (fun g2 wl2 hI => ?_)
    · exact ⟨0, (by first | exact g10 | rfl), Nat.zero_le _, rfl, rd8, hF⟩
    · obtain ⟨k, g10, hk, hall, rd8, hF⟩ := hI
      try rw [g10]
      refine opv_dec (lss _ _ _ _) (fun h2 => ?_) (fun h2 => ?_)
      · refine condt ?_
        have hk3 : k < ((Gs.swapL page)).length := by omega
        obtain ⟨p3, hp3⟩ : ∃ p, ((Gs.swapL page))[k]? = some p := ⟨_, List.getElem?_eq_getElem hk3⟩
        refine idx_loadA (m := 2) (by kernel_rfl) (by kernel_rfl) rd8 (by decide) (prs_length _).symm (by omega) (by omega) (prs_at _ _ p3 (by simpa using hp3)) ?_
        obtain ⟨q1, q2, q3, q4, q5⟩ := Gs.swap_get hp3
        refine alloc_intro (cs := #[.int .u8 0, .int .u8 0]) (by kernel_rfl) (fun b4 w4 e4 h_b4 _ U4 => ?_)
        have na_rd8_b4 := rd8.apart e4
        have ge_b4 : w.heap.size ≤ b4 := by have := hF.size; omega
        replace rd8 := rd8.upd0 U4
        replace hF := hF.go0 U4
        clear e4
        refine store_intro (n := 2) (by kernel_rfl) (by rfl) (by first | rfl | (simp [Value.cells, Value.oneCell']; done)) h_b4 (by first | exact Nat.le_of_ble_eq_true rfl | (simp; done) | omega) (by first | (simp; rfl) | rfl) (fun w5 N5 _ U5 => ?_)
        replace rd8 := rd8.upd1 U5 na_rd8_b4
        replace h_b4 := N5
        replace hF := hF.go1 U5 ge_b4
        refine opv_run (fieldAt_eq (off := 0) (by kernel_rfl)) ?_
        refine opv_run (ldC (by kernel_rfl) h_b4 (by rfl)) ?_
        refine opv_dec (eqI _ _ _ _ _) (fun h6 => ?_) (fun h6 => ?_)
        · refine condt ?_
          refine opv_run (fieldAt_eq (off := 1) (by kernel_rfl)) ?_
          refine opv_run (ldC (by kernel_rfl) h_b4 (by rfl)) ?_
          first | refine opv_run (conv_i32 (by kernel_rfl) (by kernel_rfl) (by omega)) ?_ | refine opv_run (convII (k := .i32) (by kernel_rfl) (by kernel_rfl)) ?_
          first | exact ⟨retI (Gs.sign_none hnone hx?), hF⟩ | exact ⟨retI (Gs.sign_some (find_some hp3 hall (by simpa using by assumption))), hF⟩
        · refine condf ?_
          first | refine opv_run (add_i64 _ (by omega)) ?_ | refine opv_run (addI _ _ _ _) ?_
          exact ⟨⟨k + 1, (by first | exact g10 | rfl), by omega, (find_take hp3 hall (by simpa using by assumption)), rd8, hF⟩, cnt_lt (by first | rfl | exact g10) rfl (by omega)⟩
      · refine condf ?_
        refine hJ1 _ _ ?_
        exact ⟨(by rw [← hall, List.take_of_length_le (by omega)]), hF⟩
  · obtain ⟨hnone, hF⟩ := hI
    refine callF_val (c_code_plain) (fun w8 U8 => ?_)
    replace hF := hF.go0 U8
    refine index_arrI (n := 256) (by kernel_rfl) (by first | assumption | simp [*]) (by omega) (by omega) (fun x9 hx9 => ?_)
    try simp only [Int.toNat_natCast] at hx9
    have q := Gs.plain_get hx9
    first | refine opv_run (conv_i32 (by kernel_rfl) (by kernel_rfl) (by omega)) ?_ | refine opv_run (convII (k := .i32) (by kernel_rfl) (by kernel_rfl)) ?_
    first | exact ⟨retI (Gs.sign_none hnone hx9), hF⟩ | exact ⟨retI (Gs.sign_some (find_some hp3 hall (by simpa using by assumption))), hF⟩

/-- greenscreen/greenscreenref01.Seen -/
theorem c_greenscreenref01_Seen {b : Int} {w : World} :
    Calls Tryd.prog 54 #[.int .u8 b] w fun e w' => e = .returned (.bool (decide (64 ≤ b ∧ b ≤ 254))) ∧ Upd no w w' := by
  refine F54.calls ?_
  unfold F54
  have hF : Upd no w w := Fr.refl _ _ _
  refine opv_dec (geq _ _ _ _) (fun h1 => ?_) (fun h1 => ?_)
  · refine gdtt ?_
    refine gdtt ?_
    refine opv_run (leq _ _ _ _) ?_
    refine pickt ?_
    first | exact ⟨retB (by omega), hF⟩ | exact ⟨retT (by omega), hF⟩ | exact ⟨retF (by omega), hF⟩
  · refine gdft ?_
    refine gdft ?_
    refine pickf ?_
    first | exact ⟨retB (by omega), hF⟩ | exact ⟨retT (by omega), hF⟩ | exact ⟨retF (by omega), hF⟩

/-- greenscreen/greenscreenref01.value -/
theorem c_greenscreenref01_value {b : Int} {w : World} (h0 : 0 ≤ b := by omega) (h1 : b < 256 := by omega) :
    Calls Tryd.prog 68 #[.int .u8 b] w fun e w' => e = .returned (.int .i64 (Gs.value b)) ∧ Upd no w w' := by
  refine F68.calls ?_
  unfold F68
  have hF : Upd no w w := Fr.refl _ _ _
  refine opv_dec (geq _ _ _ _) (fun h1 => ?_) (fun h1 => ?_)
  · refine condt ?_
    first | refine opv_run (conv_i64 (by kernel_rfl) (by kernel_rfl) (by omega)) ?_ | refine opv_run (convII (k := .i64) (by kernel_rfl) (by kernel_rfl)) ?_
    first | refine opv_run (sub_i64 _ (by omega)) ?_ | refine opv_run (subI _ _ _ _) ?_
    exact ⟨retI (by unfold Gs.value; first | rw [if_pos (by omega)] | rw [if_neg (by omega)]), hF⟩
  · refine condf ?_
    first | refine opv_run (conv_i64 (by kernel_rfl) (by kernel_rfl) (by omega)) ?_ | refine opv_run (convII (k := .i64) (by kernel_rfl) (by kernel_rfl)) ?_
    first | refine opv_run (sub_i64 _ (by omega)) ?_ | refine opv_run (subI _ _ _ _) ?_
    exact ⟨retI (by unfold Gs.value; first | rw [if_pos (by omega)] | rw [if_neg (by omega)]), hF⟩

/-- greenscreen/greenscreenref01.list -/
theorem c_greenscreenref01_list {w : World} :
    Calls Tryd.prog 67 #[] w fun e w' => e = .returned (.string Gs.listS) ∧ Upd no w w' := by
  refine F67.calls ?_
  unfold F67
  have hF : Upd no w w := Fr.refl _ _ _
  exact ⟨by kernel_rfl, hF⟩

/-- greenscreen/greenscreenref01.Sign -/
theorem c_greenscreenref01_Sign {page b : Int} {w : World} (h0 : 0 ≤ b := by omega) (h1 : b < 256 := by omega) :
    Calls Tryd.prog 55 #[.int .i64 page, .int .u8 b] w fun e w' => e = .returned (.int .i32 (Gs.sign page b)) ∧ Upd no w w' := by
  refine F55.calls ?_
  unfold F55
  have l_sw := Gs.swapL_le page
  have l_list := Gs.listS_size
  obtain ⟨pb, hpb, pb0, pb1⟩ := Gs.plain_range h0 h1
  have hF : Upd no w w := Fr.refl _ _ _
  refine buildSlice_intro (e := 5) (m := 1) (z := #[.int .u8 0]) (by kernel_rfl) (by kernel_rfl) (by rfl) (by decide) (by first | (simp [fillL, splice, repL, Value.cells]; done) | (simp [fillL, splice, repL, Value.cells]; rfl)) (fun b1 w1 e1 h_b1 _ U1 => ?_)
  have ge_b1 : w.heap.size ≤ b1 := by have := hF.size; omega
  replace hF := hF.go0 U1
  clear e1
  refine buildSlice_intro (e := 21) (m := 1) (z := #[.int .i32 0]) (by kernel_rfl) (by kernel_rfl) (by rfl) (by decide) (by first | (simp [fillL, splice, repL, Value.cells]; done) | (simp [fillL, splice, repL, Value.cells]; rfl)) (fun b2 w2 e2 h_b2 _ U2 => ?_)
  have ne_b1_b2 : b1 ≠ b2 := by have := lt_get h_b1; omega
  have ge_b2 : w.heap.size ≤ b2 := by have := hF.size; omega
  replace h_b1 := U2.get0 h_b1
  replace hF := hF.go0 U2
  clear e2
  refine join_cut (fun g w' => ∃ (L : List (Int × Int)) (A5 : Option Addr) (c5 : Nat) (A6 : Option Addr) (c6 : Nat), (g 5 = .slice A5 L.length c5) ∧ (g 6 = .slice A6 L.length c6) ∧ (Rd w' A5 (vals .u8 (L.map (·.1)))) ∧ (Rd w' A6 (vals .i32 (L.map (·.2)))) ∧ (L = if page = 500 then Gs.swapL 500 else []) ∧ (Upd no w w')) (fun J1 hJ1 => ?_) (fun gJ1 wJ1 hI => ?_)
  · refine opv_dec (eqI _ _ _ _ _) (fun h3 => ?_) (fun h3 => ?_)
    · refine condt ?_
      refine buildSlice_intro (e := 5) (m := 1) (z := #[.int .u8 0]) (by kernel_rfl) (by kernel_rfl) (by rfl) (by decide) (by first | (simp [fillL, splice, repL, Value.cells]; done) | (simp [fillL, splice, repL, Value.cells]; rfl)) (fun b4 w4 e4 h_b4 _ U4 => ?_)
      have ne_b1_b4 : b1 ≠ b4 := by have := lt_get h_b1; omega
      have ne_b2_b4 : b2 ≠ b4 := by have := lt_get h_b2; omega
      have ge_b4 : w.heap.size ≤ b4 := by have := hF.size; omega
      replace h_b1 := U4.get0 h_b1
      replace h_b2 := U4.get0 h_b2
      replace hF := hF.go0 U4
      clear e4
      refine buildSlice_intro (e := 21) (m := 1) (z := #[.int .i32 0]) (by kernel_rfl) (by kernel_rfl) (by rfl) (by decide) (by first | (simp [fillL, splice, repL, Value.cells]; done) | (simp [fillL, splice, repL, Value.cells]; rfl)) (fun b5 w5 e5 h_b5 _ U5 => ?_)
      have ne_b1_b5 : b1 ≠ b5 := by have := lt_get h_b1; omega
      have ne_b2_b5 : b2 ≠ b5 := by have := lt_get h_b2; omega
      have ne_b4_b5 : b4 ≠ b5 := by have := lt_get h_b4; omega
      have ge_b5 : w.heap.size ≤ b5 := by have := hF.size; omega
      replace h_b1 := U5.get0 h_b1
      replace h_b2 := U5.get0 h_b2
      replace h_b4 := U5.get0 h_b4
      replace hF := hF.go0 U5
      clear e5
      refine hJ1 _ _ ?_
      first | exact ⟨Gs.swapL 500, _, _, _, _, rfl, rfl, Rd.of_blockL h_b4, Rd.of_blockL h_b5, by rw [if_pos (by assumption)], hF⟩ | exact ⟨[], _, _, _, _, rfl, rfl, Rd.of_blockL h_b1, Rd.of_blockL h_b2, by rw [if_neg (by assumption)], hF⟩
    · refine condf ?_
      refine hJ1 _ _ ?_
      first | exact ⟨Gs.swapL 500, _, _, _, _, rfl, rfl, Rd.of_blockL h_b4, Rd.of_blockL h_b5, by rw [if_pos (by assumption)], hF⟩ | exact ⟨[], _, _, _, _, rfl, rfl, Rd.of_blockL h_b1, Rd.of_blockL h_b2, by rw [if_neg (by assumption)], hF⟩
  · obtain ⟨L, A5, c5, A6, c6, g5, g6, rd5, rd6, hL, hF⟩ := hI
    try rw [g5]
    try rw [g6]
    refine join_cut (fun g w' => ∃ (L : List (Int × Int)) (A5 : Option Addr) (c5 : Nat) (A6 : Option Addr) (c6 : Nat), (g 5 = .slice A5 L.length c5) ∧ (g 6 = .slice A6 L.length c6) ∧ (Rd w' A5 (vals .u8 (L.map (·.1)))) ∧ (Rd w' A6 (vals .i32 (L.map (·.2)))) ∧ (L = Gs.swapL page) ∧ (Upd no w w')) (fun J2 hJ2 => ?_) (fun gJ2 wJ2 hI => ?_)
    · refine opv_dec (eqI _ _ _ _ _) (fun h6 => ?_) (fun h6 => ?_)
      · refine condt ?_
        refine buildSlice_intro (e := 5) (m := 1) (z := #[.int .u8 0]) (by kernel_rfl) (by kernel_rfl) (by rfl) (by decide) (by first | (simp [fillL, splice, repL, Value.cells]; done) | (simp [fillL, splice, repL, Value.cells]; rfl)) (fun b7 w7 e7 h_b7 _ U7 => ?_)
        have na_rd5_b7 := rd5.apart e7
        have na_rd6_b7 := rd6.apart e7
        have ge_b7 : w.heap.size ≤ b7 := by have := hF.size; omega
        replace rd5 := rd5.upd0 U7
        replace rd6 := rd6.upd0 U7
        replace hF := hF.go0 U7
        clear e7
        refine buildSlice_intro (e := 21) (m := 1) (z := #[.int .i32 0]) (by kernel_rfl) (by kernel_rfl) (by rfl) (by decide) (by first | (simp [fillL, splice, repL, Value.cells]; done) | (simp [fillL, splice, repL, Value.cells]; rfl)) (fun b8 w8 e8 h_b8 _ U8 => ?_)
        have na_rd5_b8 := rd5.apart e8
        have na_rd6_b8 := rd6.apart e8
        have ne_b7_b8 : b7 ≠ b8 := by have := lt_get h_b7; omega
        have ge_b8 : w.heap.size ≤ b8 := by have := hF.size; omega
        replace rd5 := rd5.upd0 U8
        replace rd6 := rd6.upd0 U8
        replace h_b7 := U8.get0 h_b7
        replace hF := hF.go0 U8
        clear e8
        refine hJ2 _ _ ?_
        first | exact ⟨Gs.swapL 1047, _, _, _, _, rfl, rfl, Rd.of_blockL (by assumption), Rd.of_blockL (by assumption), by subst_vars; rfl, hF⟩ | exact ⟨L, _, _, _, _, g5, g6, rd5, rd6, by rw [hL]; simp only [Gs.swapL]; split <;> simp_all, hF⟩
      · refine condf ?_
        refine hJ2 _ _ ?_
        first | exact ⟨Gs.swapL 1047, _, _, _, _, rfl, rfl, Rd.of_blockL (by assumption), Rd.of_blockL (by assumption), by subst_vars; rfl, hF⟩ | exact ⟨L, _, _, _, _, g5, g6, rd5, rd6, by rw [hL]; simp only [Gs.swapL]; split <;> simp_all, hF⟩
    · obtain ⟨L, A5, c5, A6, c6, g5, g6, rd5, rd6, hL, hF⟩ := hI
      try rw [g5]
      try rw [g6]
      subst hL
      refine join_cut (fun g w' => ((Gs.swapL page).find? (fun p => p.1 == b) = none) ∧ (Upd no w w')) (fun J3 hJ3 => ?_) (fun gJ3 wJ3 hI => ?_)
      · refine loop_intro (fun g w' => ∃ (k : Nat), (g 7 = .int .i64 (k : Int)) ∧ (k ≤ (Gs.swapL page).length) ∧ (((Gs.swapL page).take k).find? (fun p => p.1 == b) = none) ∧ (Rd w' A5 (vals .u8 ((Gs.swapL page).map (·.1)))) ∧ (Rd w' A6 (vals .i32 ((Gs.swapL page).map (·.2)))) ∧ (Upd no w w')) (fun g w' => (Gs.swapL page).length - (RowKit.intOf (g 7)).toNat) ?_ (fun g4 wl4 hI => ?_)
        · exact ⟨0, (by first | exact g7 | rfl), Nat.zero_le _, rfl, rd5, rd6, hF⟩
        · obtain ⟨k, g7, hk, hall, rd5, rd6, hF⟩ := hI
          try rw [g7]
          refine opv_run (len_sl (by kernel_rfl) _ _ _) ?_
          refine opv_dec (lss _ _ _ _) (fun h9 => ?_) (fun h9 => ?_)
          · refine condt ?_
            refine idx_int (by kernel_rfl) (by kernel_rfl) rd5 (by first | rfl | assumption | omega | (simp; done) | (simp [vals_length, *]; done) | (simp [vals_length] at *; omega)) (by omega) (by omega) (fun x10 hx10 => ?_)
            try simp only [Int.toNat_natCast] at hx10
            obtain ⟨p10, hp10, rfl⟩ := Gs.map_get hx10
            refine opv_dec (eqI _ _ _ _ _) (fun h11 => ?_) (fun h11 => ?_)
            · refine condt ?_
              refine idx_int (by kernel_rfl) (by kernel_rfl) rd6 (by first | rfl | assumption | omega | (simp; done) | (simp [vals_length, *]; done) | (simp [vals_length] at *; omega)) (by omega) (by omega) (fun x12 hx12 => ?_)
              try simp only [Int.toNat_natCast] at hx12
              obtain ⟨p12, hp12, rfl⟩ := Gs.map_get hx12
              have := hp10.symm.trans hp12
              cases this
              first | exact ⟨retI (by rw [← Gs.sign_none hnone hpb]; omega), hF⟩ | exact ⟨retI (Gs.sign_some (find_some hp10 hall (by simpa using by assumption))), hF⟩
            · refine condf ?_
              first | refine opv_run (add_i64 _ (by omega)) ?_ | refine opv_run (addI _ _ _ _) ?_
              exact ⟨⟨k + 1, (by first | exact g7 | rfl), by omega, (find_take hp10 hall (by simpa using by assumption)), rd5, rd6, hF⟩, cnt_lt (by first | rfl | exact g7) rfl (by omega)⟩
          · refine condf ?_
            refine hJ3 _ _ ?_
            exact ⟨(by rw [← hall, List.take_of_length_le (by omega)]), hF⟩
      · obtain ⟨hnone, hF⟩ := hI
        refine callF_val (c_greenscreenref01_list) (fun w14 U14 => ?_)
        replace hF := hF.go0 U14
        refine drawn_S (S := no) (fun w15 U15 => ?_)
        replace hF := hF.go0 U15
        first | refine qop_run (fun w' hw' => (conv_i64 (by kernel_rfl) (by kernel_rfl) (by omega))) ?_ | refine qop_run (fun w' hw' => (convII (k := .i64) (by kernel_rfl) (by kernel_rfl))) ?_
        first | refine qop_run (fun w' hw' => (mul_i64 _ (by omega))) ?_ | refine qop_run (fun w' hw' => (mulI _ _ _ _)) ?_
        refine qindex_str (by kernel_rfl) (by omega) (by first | assumption | omega) (fun x16 hx16 => ?_)
        try simp only [Int.toNat_natCast] at hx16
        have hb16 := x16.toNat_lt
        refine qop_call (fun w' hw' => c_greenscreenref01_value) ?_
        rw [Gs.value_at0 h0 hpb hx16]
        first | refine qop_run (fun w' hw' => (mul_i64 _ (by omega))) ?_ | refine qop_run (fun w' hw' => (mulI _ _ _ _)) ?_
        first | refine qop_run (fun w' hw' => (conv_i64 (by kernel_rfl) (by kernel_rfl) (by omega))) ?_ | refine qop_run (fun w' hw' => (convII (k := .i64) (by kernel_rfl) (by kernel_rfl))) ?_
        first | refine qop_run (fun w' hw' => (mul_i64 _ (by omega))) ?_ | refine qop_run (fun w' hw' => (mulI _ _ _ _)) ?_
        first | refine qop_run (fun w' hw' => (add_i64 _ (by omega))) ?_ | refine qop_run (fun w' hw' => (addI _ _ _ _)) ?_
        refine qindex_str (by kernel_rfl) (by omega) (by first | assumption | omega) (fun x18 hx18 => ?_)
        try simp only [Int.toNat_natCast] at hx18
        have hb18 := x18.toNat_lt
        refine qop_call (fun w' hw' => c_greenscreenref01_value) ?_
        rw [Gs.value_at1 h0 hpb hx18]
        first | refine qop_run (fun w' hw' => (add_i64 _ (by omega))) ?_ | refine qop_run (fun w' hw' => (addI _ _ _ _)) ?_
        first | refine qop_run (fun w' hw' => (conv_i32 (by kernel_rfl) (by kernel_rfl) (by omega))) ?_ | refine qop_run (fun w' hw' => (convII (k := .i32) (by kernel_rfl) (by kernel_rfl))) ?_
        refine ext_intro (fun w20 U20 => ?_)
        replace hF := hF.go0 U20
        first | exact ⟨retI (by rw [← Gs.sign_none hnone hpb]; omega), hF⟩ | exact ⟨retI (Gs.sign_some (find_some hp10 hall (by simpa using by assumption))), hF⟩

end Go.Proofs.YtkjkmahpkfbbnaaDoor
