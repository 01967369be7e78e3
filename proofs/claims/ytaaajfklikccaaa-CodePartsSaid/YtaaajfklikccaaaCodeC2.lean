/-
  Contracts of functions of the program, walked over their shallow forms. No condition but the ones that each states.
-/
import Derived.Test.YtaaajfklikccaaaCodeC
import Derived.Test.YtaaajfklikccaaaBld
import Derived.Test.YtaaajfklikccaaaCodeText
namespace Go.Proofs.Ytaaajfklikccaaa
open Go Go.Sh
set_option linter.unusedVariables false
set_option maxRecDepth 100000


/-- greenscreen/code.Text -/
theorem c_code_Text {page : Int} {A : Option Addr} {c : Nat} {bs : List Int} {w : World} (rd1 : Rd w A (vals .u8 bs)) (hbs : Bs bs) (hlen : bs.length ≤ 1099511627776) :
    Calls Try.prog 23 #[.int .i64 page, .slice A bs.length c] w fun e w' => e = .returned (.string ⟨(Gs.txt page bs).toArray⟩) ∧ Upd no w w' := by
  refine F23.calls ?_
  unfold F23
  have l_tab := Gs.tabIn_length (Gs.swapL page)
  have lt_rd1 := Rd.lt rd1
  have hF : Upd no w w := Fr.refl _ _ _
  refine alloc_intro (cs := #[.pointer none, .slice none 0 0]) (by kernel_rfl) (fun b1 w1 e1 h_b1 _ U1 => ?_)
  have na_rd1_b1 := rd1.apart e1
  have ge_b1 : w.heap.size ≤ b1 := by have := hF.size; omega
  replace rd1 := rd1.upd0 U1
  replace hF := hF.go0 U1
  clear e1
  refine callF_val (c_code_Table) (fun w2 U2 => ?_)
  replace rd1 := rd1.upd0 U2
  replace h_b1 := U2.get0 h_b1
  replace hF := hF.go0 U2
  refine alloc_intro (cs := (vals .i32 (List.replicate 256 0)).toArray) (by kernel_rfl) (fun b3 w3 e3 h_b3 _ U3 => ?_)
  have na_rd1_b3 := rd1.apart e3
  have ne_b1_b3 : b1 ≠ b3 := by have := lt_get h_b1; omega
  have ge_b3 : w.heap.size ≤ b3 := by have := hF.size; omega
  replace rd1 := rd1.upd0 U3
  replace h_b1 := U3.get0 h_b1
  replace hF := hF.go0 U3
  clear e3
  refine storeAll_intro (n := 256) (by kernel_rfl) (by first | rfl | simp [vals_length, *]) (by first | rfl | simp [vals_length, *]) (by first | exact vals_one | assumption) h_b3 (fun w4 N4 _ U4 => ?_)
  replace rd1 := rd1.upd1 U4 na_rd1_b3
  replace h_b1 := U4.get1 h_b1 ne_b1_b3
  replace h_b3 := N4
  replace hF := hF.go1 U4 ge_b3
  refine join_cut (fun g w' => ∃ (v : Value), (Bld (b3 + 1) w' b1 v (Lib.byteCells (Gs.txt page (bs.take bs.length)))) ∧ (Upd no w w')) (fun J1 hJ1 => ?_) (fun gJ1 wJ1 hI => ?_)
  · refine opv_run (len_sl (by kernel_rfl) _ _ _) ?_
    refine loop_intro (fun g w' => ∃ (k : Nat) (v : Value), (g 13 = .int .i64 (k : Int)) ∧ (k ≤ bs.length) ∧ (Bld (b3 + 1) w' b1 v (Lib.byteCells (Gs.txt page (bs.take k)))) ∧ (w'.heap[b3]? = some (.cells (vals .i32 (Gs.tab page)).toArray 25 (0, 0))) ∧ (Rd w' A (vals .u8 bs)) ∧ (Upd no w w')) (fun g w' => bs.length - (RowKit.intOf (g 13)).toNat) ?_ (fun g2 wl2 hI => ?_)
    · exact ⟨0, _, (by first | rfl | exact g13), Nat.zero_le _, (Bld.new h_b1 _), h_b3, rd1, hF⟩
    · obtain ⟨k, v, g13, hk, bld, h_b3, rd1, hF⟩ := hI
      try rw [g13]
      refine opv_dec (lss _ _ _ _) (fun h5 => ?_) (fun h5 => ?_)
      · refine condt ?_
        refine join_cut (fun g w' => ∃ (v : Value), (Bld (b3 + 1) w' b1 v (Lib.byteCells (Gs.txt page (bs.take (k + 1))))) ∧ (w'.heap[b3]? = some (.cells (vals .i32 (Gs.tab page)).toArray 25 (0, 0))) ∧ (Rd w' A (vals .u8 bs)) ∧ (Upd no w w')) (fun J3 hJ3 => ?_) (fun gJ3 wJ3 hI => ?_)
        · refine idx_int (by kernel_rfl) (by kernel_rfl) rd1 (by first | rfl | assumption | omega | (simp; done) | (simp [vals_length, *]; done) | (simp [vals_length] at *; omega)) (by omega) (by omega) (fun x6 hx6 => ?_)
          try simp only [Int.toNat_natCast] at hx6
          have q16 := hbs.get hx6
          have hl16 := Gs.txt_length page (bs.take k)
          rw [List.length_take] at hl16
          refine callF_bool (c_code_Graphic) (fun w7 U7 h7 => ?_) (fun w7 U7 h7 => ?_)
          · replace bld := bld.upd0 U7
            replace h_b3 := U7.get0 h_b3
            replace rd1 := rd1.upd0 U7
            replace hF := hF.go0 U7
            try simp only [decide_eq_true_eq, decide_eq_false_iff_not] at h7
            refine condt ?_
            refine idx_arrint (n := 256) (by kernel_rfl) (by kernel_rfl) h_b3 (by first | assumption | (simp [*]; done)) (by omega) (by omega) (fun x8 hx8 => ?_)
            try simp only [Int.toNat_natCast] at hx8
            obtain ⟨q21, rfl⟩ := Gs.tab_get hx8
            rw [Int.toNat_of_nonneg q16.1]
            have r21 := Gs.sign_range (page := page) (b := x6) (by omega) (by omega)
            refine callF_ex (c_WriteRune bld (by rw [Gs.byteCells_len]; omega) (by have := lt_get h_b3; omega) (by omega) (by omega)) (fun v9 w9 D9 => ?_)
            have bld_o := bld
            obtain ⟨v, bld, U9⟩ := D9
            replace h_b3 := U9.get h_b3 (fun h => by rcases h with h | h <;> first | omega | (have := Bld.ge bld_o h; omega))
            replace rd1 := rd1.updS U9 (lt_rd1.imp_right fun hh k hk h => by have := hh k hk; rcases h with h | h <;> first | omega | (have := Bld.ge bld_o h; omega))
            replace hF := hF.go U9 (fun i hi h => by rcases h with h | h <;> first | omega | (have := Bld.ge bld_o h; omega))
            refine hJ3 _ _ ?_
            exact ⟨_, (by first | (rw [Gs.txt_g hx6 (by assumption)]; exact bld) | (rw [Gs.txt_b hx6 (by assumption)]; exact bld)), h_b3, rd1, hF⟩
          · replace bld := bld.upd0 U7
            replace h_b3 := U7.get0 h_b3
            replace rd1 := rd1.upd0 U7
            replace hF := hF.go0 U7
            try simp only [decide_eq_true_eq, decide_eq_false_iff_not] at h7
            refine condf ?_
            refine callF_ex (c_WriteByte bld (by rw [Gs.byteCells_len]; omega) (by have := lt_get h_b3; omega)) (fun v10 w10 D10 => ?_)
            have bld_o := bld
            obtain ⟨v, bld, U10⟩ := D10
            replace h_b3 := U10.get h_b3 (fun h => by rcases h with h | h <;> first | omega | (have := Bld.ge bld_o h; omega))
            replace rd1 := rd1.updS U10 (lt_rd1.imp_right fun hh k hk h => by have := hh k hk; rcases h with h | h <;> first | omega | (have := Bld.ge bld_o h; omega))
            replace hF := hF.go U10 (fun i hi h => by rcases h with h | h <;> first | omega | (have := Bld.ge bld_o h; omega))
            refine hJ3 _ _ ?_
            exact ⟨_, (by first | (rw [Gs.txt_g hx6 (by assumption)]; exact bld) | (rw [Gs.txt_b hx6 (by assumption)]; exact bld)), h_b3, rd1, hF⟩
        · obtain ⟨v, bld, h_b3, rd1, hF⟩ := hI
          first | refine opv_run (add_i64 _ (by omega)) ?_ | refine opv_run (addI _ _ _ _) ?_
          exact ⟨⟨k + 1, v, (by first | rfl | exact g13), by omega, bld, h_b3, rd1, hF⟩, cnt_lt (by first | rfl | exact g13) rfl (by omega)⟩
      · refine condf ?_
        refine hJ1 _ _ ?_
        exact ⟨v, (by rw [show bs.length = k by omega]; exact bld), hF⟩
  · obtain ⟨v, bld, hF⟩ := hI
    have hbl := bld.lt
    refine callF_val (c_String (B := w.heap.size) ⟨bld.1, bld.2.1.mono (by omega), bld.2.2⟩ ge_b1) (fun w11 U11 => ?_)
    replace hF := hF.trans U11
    exact ⟨by rw [List.take_length], hF⟩

/-- greenscreen/code.backward -/
theorem c_code_backward {page : Int} {w : World} :
    Calls Try.prog 31 #[.int .i64 page] w fun e w' => ∃ v, e = .returned v ∧ ∃ b l, v = .map (some b) ∧ MapI w' .i32 b l ∧ (∀ r, mget l r = (Gs.bof page r).map fun b => .int .u8 (b : Nat)) ∧ w.heap.size ≤ b ∧ Upd no w w' := by
  refine F31.calls ?_
  unfold F31
  have l_tab := Gs.tabIn_length (Gs.swapL page)
  have hF : Upd no w w := Fr.refl _ _ _
  refine makeMap_intro (k := .i32) (fun b1 w1 e1 h_b1 _ U1 => ?_)
  have ge_b1 : w.heap.size ≤ b1 := by have := hF.size; omega
  replace hF := hF.go0 U1
  clear e1
  refine join_cut (fun g w' => ∃ (l : List (Int × Value)), (MapI w' .i32 b1 l) ∧ (∀ r, mget l r = (Gs.bof page r).map fun b => .int .u8 (b : Nat)) ∧ (Upd no w w')) (fun J1 hJ1 => ?_) (fun gJ1 wJ1 hI => ?_)
  · refine callF_val (c_code_Table) (fun w2 U2 => ?_)
    replace h_b1 := h_b1.upd0 U2
    replace hF := hF.go0 U2
    refine loop_intro (fun g w' => ∃ (k : Nat) (l : List (Int × Value)), (g 9 = .int .i64 (k : Int)) ∧ (k ≤ 256) ∧ (MapI w' .i32 b1 l) ∧ (∀ r, mget l r = (Gs.bofK page k r).map fun b => .int .u8 (b : Nat)) ∧ (Upd no w w')) (fun g w' => 256 - (RowKit.intOf (g 9)).toNat) ?_ (fun g2 wl2 hI => ?_)
    · exact ⟨0, [], (by first | rfl | exact g9), Nat.zero_le _, h_b1, (fun r => rfl), hF⟩
    · obtain ⟨k, l, g9, hk, h_b1, hm, hF⟩ := hI
      try rw [g9]
      refine opv_dec (lss _ _ _ _) (fun h3 => ?_) (fun h3 => ?_)
      · refine condt ?_
        refine join_cut (fun g w' => ∃ (l : List (Int × Value)), (MapI w' .i32 b1 l) ∧ (∀ r, mget l r = (Gs.bofK page (k + 1) r).map fun b => .int .u8 (b : Nat)) ∧ (Upd no w w')) (fun J3 hJ3 => ?_) (fun gJ3 wJ3 hI => ?_)
        · refine index_arrI (n := 256) (by kernel_rfl) (by first | assumption | simp [*]) (by omega) (by omega) (fun x4 hx4 => ?_)
          try simp only [Int.toNat_natCast] at hx4
          obtain ⟨q12, rfl⟩ := Gs.tab_get hx4
          first | refine opv_run (conv_u8 (by kernel_rfl) (by kernel_rfl) (by omega)) ?_ | refine opv_run (convII (k := .u8) (by kernel_rfl) (by kernel_rfl)) ?_
          refine callF_bool (c_code_Graphic) (fun w5 U5 h5 => ?_) (fun w5 U5 h5 => ?_)
          · replace h_b1 := h_b1.upd0 U5
            replace hF := hF.go0 U5
            try simp only [decide_eq_true_eq, decide_eq_false_iff_not] at h5
            refine condt ?_
            first | refine opv_run (conv_u8 (by kernel_rfl) (by kernel_rfl) (by omega)) ?_ | refine opv_run (convII (k := .u8) (by kernel_rfl) (by kernel_rfl)) ?_
            refine mapUpdate_int (kt := 21) (e := 5) (by kernel_rfl) h_b1 (fun w6 N6 _ U6 => ?_)
            replace h_b1 := N6
            replace hF := hF.go1 U6 ge_b1
            refine hJ3 _ _ ?_
            exact ⟨_, h_b1, (fun r => by first | exact Gs.mset_bofK hm (by omega) (by assumption) r | exact Gs.skip_bofK hm (by omega) (by assumption) r), hF⟩
          · replace h_b1 := h_b1.upd0 U5
            replace hF := hF.go0 U5
            try simp only [decide_eq_true_eq, decide_eq_false_iff_not] at h5
            refine condf ?_
            refine hJ3 _ _ ?_
            exact ⟨_, h_b1, (fun r => by first | exact Gs.mset_bofK hm (by omega) (by assumption) r | exact Gs.skip_bofK hm (by omega) (by assumption) r), hF⟩
        · obtain ⟨l, h_b1, hm, hF⟩ := hI
          first | refine opv_run (add_i64 _ (by omega)) ?_ | refine opv_run (addI _ _ _ _) ?_
          exact ⟨⟨k + 1, l, (by first | rfl | exact g9), by omega, h_b1, hm, hF⟩, cnt_lt (by first | rfl | exact g9) rfl (by omega)⟩
      · refine condf ?_
        refine hJ1 _ _ ?_
        exact ⟨l, h_b1, (by rw [show k = 256 by omega] at hm; exact hm), hF⟩
  · obtain ⟨l, h_b1, hm, hF⟩ := hI
    exact ⟨_, rfl, _, _, rfl, h_b1, hm, ge_b1, hF⟩

/-- greenscreen/greenscreenref01.Copy -/
theorem c_greenscreenref01_Copy {A1 : Option Addr} {c1 : Nat} {xs : List Int} {w : World} (rd1 : Rd w A1 (vals .u8 xs)) (hlen : xs.length ≤ 1099511627776) :
    Calls Try.prog 26 #[.slice A1 xs.length c1] w fun e w' => ∃ v, e = .returned v ∧ Own w.heap.size w' 5 1 v (vals .u8 xs) ∧ Upd no w w' := by
  refine F26.calls ?_
  unfold F26
  have lt_rd1 := Rd.lt rd1
  have hF : Upd no w w := Fr.refl _ _ _
  refine buildSlice_intro (e := 5) (m := 1) (z := #[.int .u8 0]) (by kernel_rfl) (by kernel_rfl) (by rfl) (by decide) (by first | (simp [fillL, splice, repL, Value.cells]; done) | (simp [fillL, splice, repL, Value.cells]; rfl)) (fun b1 w1 e1 h_b1 _ U1 => ?_)
  have na_rd1_b1 := rd1.apart e1
  have ge_b1 : w.heap.size ≤ b1 := by have := hF.size; omega
  replace rd1 := rd1.upd0 U1
  replace hF := hF.go0 U1
  clear e1
  refine join_cut (fun g w' => ∃ (v3 : Value), (g 3 = v3) ∧ (Own w.heap.size w' 5 1 v3 (vals .u8 xs)) ∧ (Upd no w w')) (fun J1 hJ1 => ?_) (fun gJ1 wJ1 hI => ?_)
  · refine loop_intro (fun g w' => ∃ (k : Nat) (v3 : Value), (g 4 = .int .i64 (k : Int)) ∧ (k ≤ xs.length) ∧ (g 3 = v3) ∧ (Own w.heap.size w' 5 1 v3 (vals .u8 (xs.take k))) ∧ (Rd w' A1 (vals .u8 xs)) ∧ (Upd no w w')) (fun g w' => xs.length - (RowKit.intOf (g 4)).toNat) ?_ (fun g2 wl2 hI => ?_)
    · exact ⟨0, _, (by first | rfl | exact g4), Nat.zero_le _, (by first | rfl | exact g3), (Own.of_block (n := 0) h_b1 ge_b1 rfl (by decide)), rd1, hF⟩
    · obtain ⟨k, v3, g4, hk, g3, own3, rd1, hF⟩ := hI
      try rw [g4]
      try rw [g3]
      refine opv_run (len_sl (by kernel_rfl) _ _ _) ?_
      refine opv_dec (lss _ _ _ _) (fun h2 => ?_) (fun h2 => ?_)
      · refine condt ?_
        refine idx_int (by kernel_rfl) (by kernel_rfl) rd1 (by first | rfl | assumption | omega | (simp; done) | (simp [vals_length, *]; done) | (simp [vals_length] at *; omega)) (by omega) (by omega) (fun x3 hx3 => ?_)
        try simp only [Int.toNat_natCast] at hx3
        refine buildSlice_intro (e := 5) (m := 1) (z := #[.int .u8 0]) (by kernel_rfl) (by kernel_rfl) (by rfl) (by decide) (by first | (simp [fillL, splice, repL, Value.cells]; done) | (simp [fillL, splice, repL, Value.cells]; rfl)) (fun b4 w4 e4 h_b4 _ U4 => ?_)
        have na_own3_b4 := own3.apart e4
        have na_rd1_b4 := rd1.apart e4
        have ge_b4 : w.heap.size ≤ b4 := by have := hF.size; omega
        replace own3 := own3.upd0 U4
        replace rd1 := rd1.upd0 U4
        replace hF := hF.go0 U4
        clear e4
        refine app_intro (e := 5) (size := 1) (bytes := 1) (by kernel_rfl) own3 (Rd.of_blockL h_b4) rfl (by first | (simp [Value.oneCell']; done) | (intro u hu; simp only [List.mem_singleton] at hu; subst hu; rfl) | (simp; intros; subst_vars; rfl)) (by simp only [vals_length, List.length_take, List.length_cons, List.length_nil, List.length_append]; omega) (by have := hF.size; omega) (fun v5 w5 N5 U5 => ?_)
        have own3_o := own3
        replace own3 := N5
        replace rd1 := rd1.updS U5 (lt_rd1.imp_right fun h k hk hs => by have := h k hk; have := (Own.ge own3_o hs).1; omega)
        replace h_b4 := U5.get h_b4 (fun h => na_own3_b4 _ h rfl)
        replace hF := hF.go U5 (fun i h hs => by have := (Own.ge own3_o hs).1; omega)
        clear own3_o
        first | refine opv_run (add_i64 _ (by omega)) ?_ | refine opv_run (addI _ _ _ _) ?_
        exact ⟨⟨k + 1, _, (by first | rfl | exact g4), by omega, (by first | rfl | exact g3), (own_take hx3 own3), rd1, hF⟩, cnt_lt (by first | rfl | exact g4) rfl (by omega)⟩
      · refine condf ?_
        refine hJ1 _ _ ?_
        exact ⟨v3, (by first | rfl | exact g3), (by rw [List.take_of_length_le (by omega)] at own3; exact own3), hF⟩
  · obtain ⟨v3, g3, own3, hF⟩ := hI
    try rw [g3]
    exact ⟨_, rfl, own3, hF⟩

/-- greenscreen/greenscreenref01.Same -/
theorem c_greenscreenref01_Same {A1 A2 : Option Addr} {c1 c2 : Nat} {xs ys : List Int} {w : World} (rd1 : Rd w A1 (vals .u8 xs)) (rd2 : Rd w A2 (vals .u8 ys)) (hlen : xs.length ≤ 1099511627776) :
    Calls Try.prog 25 #[.slice A1 xs.length c1, .slice A2 ys.length c2] w fun e w' => e = .returned (.bool (decide (xs = ys))) ∧ Upd no w w' := by
  refine F25.calls ?_
  unfold F25
  have lt_rd1 := Rd.lt rd1
  have lt_rd2 := Rd.lt rd2
  have hF : Upd no w w := Fr.refl _ _ _
  refine opv_run (len_sl (by kernel_rfl) _ _ _) ?_
  refine opv_run (len_sl (by kernel_rfl) _ _ _) ?_
  refine opv_dec (neI _ _ _ _ _) (fun h1 => ?_) (fun h1 => ?_)
  · refine condt ?_
    first | exact ⟨retT hall, hF⟩ | exact ⟨retF (fun e => by subst e; omega), hF⟩ | exact ⟨retF (fun e => by subst e; have h1 := hx?; have h2 := hx?; rw [h1] at h2; cases h2; omega), hF⟩
  · refine condf ?_
    refine join_cut (fun g w' => (xs = ys) ∧ (Upd no w w')) (fun J1 hJ1 => ?_) (fun gJ1 wJ1 hI => ?_)
    · refine loop_intro (fun g w' => ∃ (k : Nat), (g 5 = .int .i64 (k : Int)) ∧ (k ≤ xs.length) ∧ (xs.take k = ys.take k) ∧ (Rd w' A1 (vals .u8 xs)) ∧ (Rd w' A2 (vals .u8 ys)) ∧ (Upd no w w')) (fun g w' => xs.length - (RowKit.intOf (g 5)).toNat) ?_ (fun g2 wl2 hI => ?_)
      · exact ⟨0, (by first | rfl | exact g5), Nat.zero_le _, rfl, rd1, rd2, hF⟩
      · obtain ⟨k, g5, hk, hall, rd1, rd2, hF⟩ := hI
        try rw [g5]
        refine opv_run (len_sl (by kernel_rfl) _ _ _) ?_
        refine opv_dec (lss _ _ _ _) (fun h3 => ?_) (fun h3 => ?_)
        · refine condt ?_
          refine drawn_ext (fun w4 U4 => ?_)
          replace rd1 := rd1.upd0 U4
          replace rd2 := rd2.upd0 U4
          replace hF := hF.go0 U4
          refine qidx_int (by kernel_rfl) (by kernel_rfl) rd1 (by first | rfl | assumption | omega | (simp; done) | (simp [vals_length, *]; done) | (simp [vals_length] at *; omega)) (by omega) (by omega) (fun x5 hx5 => ?_)
          try simp only [Int.toNat_natCast] at hx5
          refine qidx_int (by kernel_rfl) (by kernel_rfl) rd2 (by first | rfl | assumption | omega | (simp; done) | (simp [vals_length, *]; done) | (simp [vals_length] at *; omega)) (by omega) (by omega) (fun x6 hx6 => ?_)
          try simp only [Int.toNat_natCast] at hx6
          refine qop_dec (fun w' hw' => (neI _ _ _ _ _)) (fun h7 => ?_) (fun h7 => ?_)
          · refine ext_intro (fun w8 U8 => ?_)
            replace rd1 := rd1.upd0 U8
            replace rd2 := rd2.upd0 U8
            replace hF := hF.go0 U8
            refine condt ?_
            first | exact ⟨retT hall, hF⟩ | exact ⟨retF (fun e => by subst e; omega), hF⟩ | exact ⟨retF (fun e => by subst e; have h1 := hx5; have h2 := hx6; rw [h1] at h2; cases h2; omega), hF⟩
          · refine ext_intro (fun w10 U10 => ?_)
            replace rd1 := rd1.upd0 U10
            replace rd2 := rd2.upd0 U10
            replace hF := hF.go0 U10
            refine condf ?_
            first | refine opv_run (add_i64 _ (by omega)) ?_ | refine opv_run (addI _ _ _ _) ?_
            exact ⟨⟨k + 1, (by first | rfl | exact g5), by omega, (take_same hall hx5 hx6 (by omega)), rd1, rd2, hF⟩, cnt_lt (by first | rfl | exact g5) rfl (by omega)⟩
        · refine condf ?_
          refine hJ1 _ _ ?_
          exact ⟨(take_all hall (by omega) (by omega)), hF⟩
    · obtain ⟨hall, hF⟩ := hI
      first | exact ⟨retT hall, hF⟩ | exact ⟨retF (fun e => by subst e; omega), hF⟩ | exact ⟨retF (fun e => by subst e; have h1 := hx5; have h2 := hx6; rw [h1] at h2; cases h2; omega), hF⟩

/-- greenscreen/code.Bytes -/
theorem c_code_Bytes {page : Int} {s : ByteArray} {w : World} (hlen : s.size ≤ 1099511627776) :
    Calls Try.prog 21 #[.int .i64 page, .string s] w fun e w' => ∃ x, e = .returned x ∧ ∃ v, x = .tuple #[v, .int .i64 (if (Gs.bytesOf page s).isSome then 0 else 21)] ∧ Own w.heap.size w' 5 1 v (vals .u8 ((Gs.bytesOf page s).getD [])) ∧ Upd no w w' := by
  refine F21.calls ?_
  unfold F21
  have hF : Upd no w w := Fr.refl _ _ _
  refine callF_ex (c_code_backward) (fun v1 w1 D1 => ?_)
  obtain ⟨b13, l13, rfl, h_b13, hm13, gb13, U1⟩ := D1
  replace hF := hF.go0 U1
  refine join_cut (fun g w' => ∃ (v7 : Value), (g 7 = v7) ∧ (Own w.heap.size w' 5 1 v7 (vals .u8 ((Gs.bytesOf page s).getD []))) ∧ ((Gs.bytesOf page s).isSome = true) ∧ (Upd no w w')) (fun J1 hJ1 => ?_) (fun gJ1 wJ1 hI => ?_)
  · refine range_str (by kernel_rfl) (fun b2 w2 e2 h_b2 _ U2 => ?_)
    have na_h_b13_b2 := h_b13.apart e2
    have ge_b2 : w.heap.size ≤ b2 := by have := hF.size; omega
    replace h_b13 := h_b13.upd0 U2
    replace hF := hF.go0 U2
    clear e2
    refine loop_intro (fun g w' => ∃ (pos : Nat) (acc : List Int) (v7 : Value), (g 7 = v7) ∧ (Own w.heap.size w' 5 1 v7 (vals .u8 acc)) ∧ (w'.heap[b2]? = some (.stringIter s pos)) ∧ (MapI w' .i32 b13 l13) ∧ (Gs.bytesOf page s = (Gs.enc page (Gs.runesAt s pos)).map (acc ++ ·)) ∧ (acc.length ≤ pos) ∧ (∀ k, ownS v7 k → k ≠ b2) ∧ (Upd no w w')) (fun g w' => s.size - iterP w' b2) ?_ (fun g2 wl2 hI => ?_)
    · exact ⟨0, [], _, (by first | rfl | exact g7), (Own.nil _ _ _ _), h_b2, h_b13, (by simp only [List.nil_append]; show Gs.bytesOf page s = (Gs.bytesOf page s).map _; cases Gs.bytesOf page s <;> rfl), (Nat.le_refl _), (fun k hk => by cases hk), hF⟩
    · obtain ⟨pos, acc, v7, g7, own7, h_b2, h_b13, henc, hpos, nb2, hF⟩ := hI
      try rw [g7]
      have it0 := h_b2
      refine next_str h_b2 ?_ ?_
      · intro h3 w3 N3 _ U3
        replace own7 := own7.upd1 U3 nb2
        replace h_b2 := N3
        replace h_b13 := h_b13.upd1 U3 na_h_b13_b2
        replace hF := hF.go1 U3 ge_b2
        refine opv_run (ext_t (by rfl)) ?_
        refine condt ?_
        refine opv_run (ext_t (by rfl)) ?_
        refine opv_run (lookup_int (kt := 21) (e := 5) (z := .int .u8 0) (by kernel_rfl) (by kernel_rfl) (by kernel_rfl) h_b13 rfl) ?_
        rw [hm13]
        rcases hbof : Gs.bof page ((Utf8.decode s pos).1 : Nat) with _ | bb
        · refine opv_run (ext_t (by rfl)) ?_
          refine opv_run (ext_t (by rfl)) ?_
          refine opv_run (notF) ?_
          refine condt ?_
          first | exact ⟨_, rfl, _, by rw [if_pos hs], own7, hF⟩ | (have hn := Gs.enc_none1 (by assumption) henc hbof; exact ⟨_, rfl, _, by rw [if_neg (by rw [hn]; decide)], by rw [hn]; exact Own.nil _ _ _ _, hF⟩)
        · refine opv_run (ext_t (by rfl)) ?_
          refine opv_run (ext_t (by rfl)) ?_
          refine opv_run (notT) ?_
          refine condf ?_
          refine buildSlice_intro (e := 5) (m := 1) (z := #[.int .u8 0]) (by kernel_rfl) (by kernel_rfl) (by rfl) (by decide) (by first | (simp [fillL, splice, repL, Value.cells]; done) | (simp [fillL, splice, repL, Value.cells]; rfl)) (fun b7 w7 e7 h_b7 _ U7 => ?_)
          have na_own7_b7 := own7.apart e7
          have ne_b2_b7 : b2 ≠ b7 := by have := lt_get h_b2; omega
          have na_h_b13_b7 := h_b13.apart e7
          have ge_b7 : w.heap.size ≤ b7 := by have := hF.size; omega
          replace own7 := own7.upd0 U7
          replace h_b2 := U7.get0 h_b2
          replace h_b13 := h_b13.upd0 U7
          replace hF := hF.go0 U7
          clear e7
          refine app_intro (e := 5) (size := 1) (bytes := 1) (by kernel_rfl) own7 (Rd.of_blockL h_b7) rfl (by first | (simp [Value.oneCell']; done) | (intro u hu; simp only [List.mem_singleton] at hu; subst hu; rfl) | (simp; intros; subst_vars; rfl)) (by simp only [vals_length, List.length_take, List.length_cons, List.length_nil, List.length_append]; omega) (by have := hF.size; omega) (fun v8 w8 N8 U8 => ?_)
          have own7_o := own7
          replace own7 := N8
          replace h_b2 := U8.get h_b2 (fun h => nb2 _ h rfl)
          replace h_b13 := h_b13.updS U8 (fun hk => Own.not_mapI own7_o h_b13 _ hk rfl)
          replace h_b7 := U8.get h_b7 (fun h => na_own7_b7 _ h rfl)
          replace hF := hF.go U8 (fun i h hs => by have := (Own.ge own7_o hs).1; omega)
          clear own7_o
          exact ⟨⟨_, _, _, (by first | rfl | exact g7), (own_snoc own7), h_b2, h_b13, (Gs.enc_step1 (by assumption) henc (by first | exact hbof | exact Gs.bof_of hby (by assumption) | exact Gs.bof_of_not hby (by assumption))), (by have := Gs.width_pos s pos (by assumption); simp only [List.length_append, List.length_cons, List.length_nil]; omega), (Own.not_iter own7 h_b2), hF⟩, meas_iter it0 h_b2 (by have := Gs.width_pos s pos (by assumption); omega) (by assumption)⟩
      · intro h4
        refine opv_run (ext_t (by rfl)) ?_
        refine condf ?_
        refine hJ1 _ _ ?_
        exact ⟨v7, (by first | rfl | exact g7), (by rw [henc, Gs.runesAt_end (by assumption)]; simpa [Gs.enc] using own7), (by rw [henc, Gs.runesAt_end (by assumption)]; rfl), hF⟩
  · obtain ⟨v7, g7, own7, hs, hF⟩ := hI
    try rw [g7]
    first | exact ⟨_, rfl, _, by rw [if_pos hs], own7, hF⟩ | (have hn := Gs.enc_none1 (by assumption) henc hbof; exact ⟨_, rfl, _, by rw [if_neg (by rw [hn]; decide)], by rw [hn]; exact Own.nil _ _ _ _, hF⟩)

/-- greenscreen/greenscreenref01.Bytes -/
theorem c_greenscreenref01_Bytes {page : Int} {s : ByteArray} {w : World} (hlen : s.size ≤ 1099511627776) :
    Calls Try.prog 22 #[.int .i64 page, .string s] w fun e w' => ∃ x, e = .returned x ∧ ∃ v, x = .tuple #[v, .int .i64 (if (Gs.bytesOf page s).isSome then 0 else 21)] ∧ Own w.heap.size w' 5 1 v (vals .u8 ((Gs.bytesOf page s).getD [])) ∧ Upd no w w' := by
  refine F22.calls ?_
  unfold F22
  have hF : Upd no w w := Fr.refl _ _ _
  refine buildSlice_intro (e := 5) (m := 1) (z := #[.int .u8 0]) (by kernel_rfl) (by kernel_rfl) (by rfl) (by decide) (by first | (simp [fillL, splice, repL, Value.cells]; done) | (simp [fillL, splice, repL, Value.cells]; rfl)) (fun b1 w1 e1 h_b1 _ U1 => ?_)
  have ge_b1 : w.heap.size ≤ b1 := by have := hF.size; omega
  replace hF := hF.go0 U1
  clear e1
  refine join_cut (fun g w' => ∃ (v7 : Value), (g 6 = v7) ∧ (Own w.heap.size w' 5 1 v7 (vals .u8 ((Gs.bytesOf page s).getD []))) ∧ ((Gs.bytesOf page s).isSome = true) ∧ (Upd no w w')) (fun J1 hJ1 => ?_) (fun gJ1 wJ1 hI => ?_)
  · refine range_str (by kernel_rfl) (fun b2 w2 e2 h_b2 _ U2 => ?_)
    have ne_b1_b2 : b1 ≠ b2 := by have := lt_get h_b1; omega
    have ge_b2 : w.heap.size ≤ b2 := by have := hF.size; omega
    replace h_b1 := U2.get0 h_b1
    replace hF := hF.go0 U2
    clear e2
    refine loop_intro (fun g w' => ∃ (pos : Nat) (acc : List Int) (v7 : Value), (g 6 = v7) ∧ (Own w.heap.size w' 5 1 v7 (vals .u8 acc)) ∧ (w'.heap[b2]? = some (.stringIter s pos)) ∧ (Gs.bytesOf page s = (Gs.enc page (Gs.runesAt s pos)).map (acc ++ ·)) ∧ (acc.length ≤ pos) ∧ (∀ k, ownS v7 k → k ≠ b2) ∧ (Upd no w w')) (fun g w' => s.size - iterP w' b2) ?_ (fun g2 wl2 hI => ?_)
    · exact ⟨0, [], _, (by first | rfl | exact g6), (Own.of_block (n := 0) h_b1 ge_b1 rfl (by decide)), h_b2, (by simp only [List.nil_append]; show Gs.bytesOf page s = (Gs.bytesOf page s).map _; cases Gs.bytesOf page s <;> rfl), (Nat.le_refl _), (fun k hk => by cases hk; omega), hF⟩
    · obtain ⟨pos, acc, v7, g6, own6, h_b2, henc, hpos, nb2, hF⟩ := hI
      try rw [g6]
      have it0 := h_b2
      refine next_str h_b2 ?_ ?_
      · intro h3 w3 N3 _ U3
        replace own6 := own6.upd1 U3 nb2
        replace h_b2 := N3
        replace hF := hF.go1 U3 ge_b2
        refine opv_run (ext_t (by rfl)) ?_
        refine condt ?_
        refine opv_run (ext_t (by rfl)) ?_
        refine callF_val c_greenscreenref01_Byte (fun w5 U5 => ?_)
        rcases hby : Gs.byteOf page ((Utf8.decode s pos).1 : Nat) with _ | bb
        · replace own6 := own6.upd0 U5
          replace h_b2 := U5.get0 h_b2
          replace hF := hF.go0 U5
          have hbof : Gs.bof page ((Utf8.decode s pos).1 : Nat) = none := by rw [Gs.bof_byteOf, hby]
          refine opv_run (ext_t (by rfl)) ?_
          refine opv_run (ext_t (by rfl)) ?_
          refine opv_run (notF) ?_
          refine gdtf ?_
          refine gdtf ?_
          refine gdtf ?_
          refine pickt ?_
          refine condt ?_
          first | exact ⟨_, rfl, _, by rw [if_pos hs], own6, hF⟩ | (have hn := Gs.enc_none1 (by assumption) henc (by first | exact hbof | exact Gs.bof_of hby (by assumption) | exact Gs.bof_of_not hby (by assumption)); exact ⟨_, rfl, _, by rw [if_neg (by rw [hn]; decide)], by rw [hn]; exact Own.nil _ _ _ _, hF⟩)
        · replace own6 := own6.upd0 U5
          replace h_b2 := U5.get0 h_b2
          replace hF := hF.go0 U5
          have hbb := Gs.byteOf_lt hby
          refine opv_run (ext_t (by rfl)) ?_
          refine opv_run (ext_t (by rfl)) ?_
          refine opv_run (notT) ?_
          refine gdff ?_
          refine gdff ?_
          refine callF_bool (c_greenscreenref01_Seen) (fun w7 U7 h7 => ?_) (fun w7 U7 h7 => ?_)
          · replace own6 := own6.upd0 U7
            replace h_b2 := U7.get0 h_b2
            replace hF := hF.go0 U7
            try simp only [decide_eq_true_eq, decide_eq_false_iff_not] at h7
            try simp only [Option.getD_some] at *
            refine gdff ?_
            refine opv_run (notT) ?_
            refine pickf ?_
            refine condf ?_
            refine buildSlice_intro (e := 5) (m := 1) (z := #[.int .u8 0]) (by kernel_rfl) (by kernel_rfl) (by rfl) (by decide) (by first | (simp [fillL, splice, repL, Value.cells]; done) | (simp [fillL, splice, repL, Value.cells]; rfl)) (fun b8 w8 e8 h_b8 _ U8 => ?_)
            have na_own6_b8 := own6.apart e8
            have ne_b2_b8 : b2 ≠ b8 := by have := lt_get h_b2; omega
            have ge_b8 : w.heap.size ≤ b8 := by have := hF.size; omega
            replace own6 := own6.upd0 U8
            replace h_b2 := U8.get0 h_b2
            replace hF := hF.go0 U8
            clear e8
            refine app_intro (e := 5) (size := 1) (bytes := 1) (by kernel_rfl) own6 (Rd.of_blockL h_b8) rfl (by first | (simp [Value.oneCell']; done) | (intro u hu; simp only [List.mem_singleton] at hu; subst hu; rfl) | (simp; intros; subst_vars; rfl)) (by simp only [vals_length, List.length_take, List.length_cons, List.length_nil, List.length_append]; omega) (by have := hF.size; omega) (fun v9 w9 N9 U9 => ?_)
            have own6_o := own6
            replace own6 := N9
            replace h_b2 := U9.get h_b2 (fun h => nb2 _ h rfl)
            replace h_b8 := U9.get h_b8 (fun h => na_own6_b8 _ h rfl)
            replace hF := hF.go U9 (fun i h hs => by have := (Own.ge own6_o hs).1; omega)
            clear own6_o
            exact ⟨⟨_, _, _, (by first | rfl | exact g6), (own_snoc own6), h_b2, (Gs.enc_step1 (by assumption) henc (by first | exact hbof | exact Gs.bof_of hby (by assumption) | exact Gs.bof_of_not hby (by assumption))), (by have := Gs.width_pos s pos (by assumption); simp only [List.length_append, List.length_cons, List.length_nil]; omega), (Own.not_iter own6 h_b2), hF⟩, meas_iter it0 h_b2 (by have := Gs.width_pos s pos (by assumption); omega) (by assumption)⟩
          · replace own6 := own6.upd0 U7
            replace h_b2 := U7.get0 h_b2
            replace hF := hF.go0 U7
            try simp only [decide_eq_true_eq, decide_eq_false_iff_not] at h7
            try simp only [Option.getD_some] at *
            refine gdff ?_
            refine opv_run (notF) ?_
            refine pickf ?_
            refine condt ?_
            first | exact ⟨_, rfl, _, by rw [if_pos hs], own6, hF⟩ | (have hn := Gs.enc_none1 (by assumption) henc (by first | exact hbof | exact Gs.bof_of hby (by assumption) | exact Gs.bof_of_not hby (by assumption)); exact ⟨_, rfl, _, by rw [if_neg (by rw [hn]; decide)], by rw [hn]; exact Own.nil _ _ _ _, hF⟩)
      · intro h4
        refine opv_run (ext_t (by rfl)) ?_
        refine condf ?_
        refine hJ1 _ _ ?_
        exact ⟨v7, (by first | rfl | exact g6), (by rw [henc, Gs.runesAt_end (by assumption)]; simpa [Gs.enc] using own6), (by rw [henc, Gs.runesAt_end (by assumption)]; rfl), hF⟩
  · obtain ⟨v7, g6, own6, hs, hF⟩ := hI
    try rw [g6]
    first | exact ⟨_, rfl, _, by rw [if_pos hs], own6, hF⟩ | (have hn := Gs.enc_none1 (by assumption) henc (by first | exact hbof | exact Gs.bof_of hby (by assumption) | exact Gs.bof_of_not hby (by assumption)); exact ⟨_, rfl, _, by rw [if_neg (by rw [hn]; decide)], by rw [hn]; exact Own.nil _ _ _ _, hF⟩)

/-- greenscreen/greenscreenref01.Text -/
theorem c_greenscreenref01_Text {page : Int} {A : Option Addr} {c : Nat} {bs : List Int} {w : World} (rd1 : Rd w A (vals .u8 bs)) (hbs : Bs bs) (hlen : bs.length ≤ 1099511627776) :
    Calls Try.prog 24 #[.int .i64 page, .slice A bs.length c] w fun e w' => e = .returned (.string ⟨(Gs.txt page bs).toArray⟩) ∧ Upd no w w' := by
  refine F24.calls ?_
  unfold F24
  have l_tab := Gs.tabIn_length (Gs.swapL page)
  have lt_rd1 := Rd.lt rd1
  have hF : Upd no w w := Fr.refl _ _ _
  refine join_cut (fun g w' => (g 5 = .string ⟨(Gs.txt page bs).toArray⟩) ∧ (Upd no w w')) (fun J1 hJ1 => ?_) (fun gJ1 wJ1 hI => ?_)
  · refine loop_intro (fun g w' => ∃ (k : Nat), (g 6 = .int .i64 (k : Int)) ∧ (k ≤ bs.length) ∧ (g 5 = .string ⟨(Gs.txt page (bs.take k)).toArray⟩) ∧ (Rd w' A (vals .u8 bs)) ∧ (Upd no w w')) (fun g w' => bs.length - (RowKit.intOf (g 6)).toNat) ?_ (fun g2 wl2 hI => ?_)
    · exact ⟨0, (by first | rfl | exact g6), Nat.zero_le _, (by first | rfl | exact g5), rd1, hF⟩
    · obtain ⟨k, g6, hk, g5, rd1, hF⟩ := hI
      try rw [g6]
      try rw [g5]
      refine opv_run (len_sl (by kernel_rfl) _ _ _) ?_
      refine opv_dec (lss _ _ _ _) (fun h1 => ?_) (fun h1 => ?_)
      · refine condt ?_
        refine join_cut (fun g w' => (g 5 = .string ⟨(Gs.txt page (bs.take (k + 1))).toArray⟩) ∧ (Rd w' A (vals .u8 bs)) ∧ (Upd no w w')) (fun J3 hJ3 => ?_) (fun gJ3 wJ3 hI => ?_)
        · refine idx_int (by kernel_rfl) (by kernel_rfl) rd1 (by first | rfl | assumption | omega | (simp; done) | (simp [vals_length, *]; done) | (simp [vals_length] at *; omega)) (by omega) (by omega) (fun x2 hx2 => ?_)
          try simp only [Int.toNat_natCast] at hx2
          have q16 := hbs.get hx2
          have hl16 := Gs.txt_length page (bs.take k)
          rw [List.length_take] at hl16
          refine callF_bool (c_greenscreenref01_Seen) (fun w3 U3 h3 => ?_) (fun w3 U3 h3 => ?_)
          · replace rd1 := rd1.upd0 U3
            replace hF := hF.go0 U3
            try simp only [decide_eq_true_eq, decide_eq_false_iff_not] at h3
            refine condt ?_
            refine idx_int (by kernel_rfl) (by kernel_rfl) rd1 (by first | rfl | assumption | omega | (simp; done) | (simp [vals_length, *]; done) | (simp [vals_length] at *; omega)) (by omega) (by omega) (fun x4 hx4 => ?_)
            try simp only [Int.toNat_natCast] at hx4
            have e23 := hx2.symm.trans hx4
            cases e23
            refine callF_val (c_greenscreenref01_Sign) (fun w5 U5 => ?_)
            replace rd1 := rd1.upd0 U5
            replace hF := hF.go0 U5
            have r24 := Gs.sign_range (page := page) (b := x2) (by omega) (by omega)
            have es := Gs.encode_size r24.1 r24.2
            refine opv_run (convIS (by kernel_rfl) (by kernel_rfl)) ?_
            refine opv_run (addS (by first | assumption | omega | (simp only [str_size, List.length_append, List.length_cons, List.length_nil]; omega) | simp [*])) ?_
            refine hJ3 _ _ ?_
            exact ⟨(by first | (rw [Gs.txt_step hx2, Gs.let1_g (by assumption)]; exact Gs.str_g (by omega) (by omega)) | (rw [Gs.txt_step hx2, Gs.let1_b (by assumption)]; exact Gs.str_b)), rd1, hF⟩
          · replace rd1 := rd1.upd0 U3
            replace hF := hF.go0 U3
            try simp only [decide_eq_true_eq, decide_eq_false_iff_not] at h3
            refine condf ?_
            refine opv_run (addS (by first | assumption | omega | (simp only [str_size, List.length_append, List.length_cons, List.length_nil]; omega) | simp [*])) ?_
            refine hJ3 _ _ ?_
            exact ⟨(by first | (rw [Gs.txt_step hx2, Gs.let1_g (by assumption)]; exact Gs.str_g (by omega) (by omega)) | (rw [Gs.txt_step hx2, Gs.let1_b (by assumption)]; exact Gs.str_b)), rd1, hF⟩
        · obtain ⟨g5, rd1, hF⟩ := hI
          try rw [g5]
          first | refine opv_run (add_i64 _ (by omega)) ?_ | refine opv_run (addI _ _ _ _) ?_
          exact ⟨⟨k + 1, (by first | rfl | exact g6), by omega, (by first | rfl | exact g5), rd1, hF⟩, cnt_lt (by first | rfl | exact g6) rfl (by omega)⟩
      · refine condf ?_
        refine hJ1 _ _ ?_
        exact ⟨(by rw [show k = bs.length by omega, List.take_length] at g5; exact g5), hF⟩
  · obtain ⟨g5, hF⟩ := hI
    try rw [g5]
    exact ⟨rfl, hF⟩

end Go.Proofs.Ytaaajfklikccaaa
