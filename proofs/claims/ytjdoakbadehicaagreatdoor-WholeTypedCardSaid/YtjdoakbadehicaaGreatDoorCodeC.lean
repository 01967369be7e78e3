/-
  Contracts of functions of the program, walked over their shallow forms. No condition but the ones that each states.
-/
import Derived.Test.YtjdoakbadehicaaGreatDoorF
import Derived.Test.YtjdoakbadehicaaGreatDoorFp
import Derived.Test.YtjdoakbadehicaaGreatDoorMem
import Derived.Test.YtjdoakbadehicaaGreatDoorCodeModel
import Derived.Test.YtjdoakbadehicaaGreatDoorRow
namespace Go.Proofs.YtjdoakbadehicaaGreatDoor
open Go Go.Sh
set_option linter.unusedVariables false
set_option maxRecDepth 100000


theorem c_code_plain {w : World} : Calls Tryz.prog 80 #[] w fun e w' => e = .returned (.agg (vals .u8 Gs.plainL).toArray) ∧ Upd no w w' := by
  refine F80.calls ?_
  unfold F80
  refine alloc_intro (cs := (vals .u8 (List.replicate 256 0)).toArray) (by kernel_rfl) fun b w1 e1 h1 _ U1 => ?_
  refine opv_run (build_arr (n := 256) (m := 1) (z := (vals .u8 (List.replicate 256 0)).toArray) (cs := vals .u8 Gs.plainL) (by kernel_rfl) (by kernel_rfl) (by kernel_rfl)) ?_
  refine storeAll_intro (n := 256) (by kernel_rfl) (by kernel_rfl) (by kernel_rfl) vals_one h1 fun w2 h2 _ U2 => ?_
  refine ldv_run (ldAll (n := 256) (by kernel_rfl) h2 (by kernel_rfl)) ?_
  exact ⟨rfl, U1.go1 U2 (by omega)⟩

/-- greenscreen/code.Graphic -/
theorem c_code_Graphic {b : Int} {w : World} :
    Calls Tryz.prog 57 #[.int .u8 b] w fun e w' => e = .returned (.bool (decide (64 ≤ b ∧ b ≤ 254))) ∧ Upd no w w' := by
  refine F57.calls ?_
  unfold F57
  have hF : Upd no w w := Fr.refl _ _ _
  refine opv_dec (geq _ _ _ _) (fun h1 => ?_) (fun h1 => ?_)
  · refine gdtt ?_
    refine gdtt ?_
    refine opv_run (leq _ _ _ _) ?_
    refine pickt ?_
    first | exact ⟨retB (by omega), hF⟩ | exact ⟨retT (by omega), hF⟩ | exact ⟨retF (by omega), hF⟩
  · refine gdft ?_
    refine gdft ?_
    refine pickf ?_
    first | exact ⟨retB (by omega), hF⟩ | exact ⟨retT (by omega), hF⟩ | exact ⟨retF (by omega), hF⟩

/-- greenscreen/code.Special -/
theorem c_code_Special {b : Int} {w : World} (h0 : 0 ≤ b := by omega) (h1 : b < 256 := by omega) :
    Calls Tryz.prog 129 #[.int .u8 b] w fun e w' => e = .returned (.int .i32 (57344 + b)) ∧ Upd no w w' := by
  refine F129.calls ?_
  unfold F129
  have hF : Upd no w w := Fr.refl _ _ _
  first | refine opv_run (conv_i32 (by kernel_rfl) (by kernel_rfl) (by omega)) ?_ | refine opv_run (convII (k := .i32) (by kernel_rfl) (by kernel_rfl)) ?_
  first | refine opv_run (add_i32 _ (by omega)) ?_ | refine opv_run (addI _ _ _ _) ?_
  exact ⟨rfl, hF⟩

/-- greenscreen/code.swaps -/
theorem c_code_swaps {page : Int} {w : World} :
    Calls Tryz.prog 79 #[.int .i64 page] w fun e w' => ∃ v, e = .returned v ∧ ∃ A c, v = .slice A (Gs.swapL page).length c ∧ Upd no w w' ∧ Rd w' A (prs (Gs.swapL page)) ∧ GeA A (prs (Gs.swapL page)) w.heap.size := by
  refine F79.calls ?_
  unfold F79
  have hF : Upd no w w := Fr.refl _ _ _
  refine opv_dec (eqI _ _ _ _ _) (fun h1 => ?_) (fun h1 => ?_)
  · refine condt ?_
    refine opv_run (build_eq (l := [(0, 1), (1, 1)]) (z := #[.int .u8 0, .int .u8 0]) (by kernel_rfl) (by first | (simp [fillL, splice, repL, Value.cells]; done) | (simp [fillL, splice, repL, Value.cells]; rfl))) ?_
    refine opv_run (build_eq (l := [(0, 1), (1, 1)]) (z := #[.int .u8 0, .int .u8 0]) (by kernel_rfl) (by first | (simp [fillL, splice, repL, Value.cells]; done) | (simp [fillL, splice, repL, Value.cells]; rfl))) ?_
    refine opv_run (build_eq (l := [(0, 1), (1, 1)]) (z := #[.int .u8 0, .int .u8 0]) (by kernel_rfl) (by first | (simp [fillL, splice, repL, Value.cells]; done) | (simp [fillL, splice, repL, Value.cells]; rfl))) ?_
    refine opv_run (build_eq (l := [(0, 1), (1, 1)]) (z := #[.int .u8 0, .int .u8 0]) (by kernel_rfl) (by first | (simp [fillL, splice, repL, Value.cells]; done) | (simp [fillL, splice, repL, Value.cells]; rfl))) ?_
    refine opv_run (build_eq (l := [(0, 1), (1, 1)]) (z := #[.int .u8 0, .int .u8 0]) (by kernel_rfl) (by first | (simp [fillL, splice, repL, Value.cells]; done) | (simp [fillL, splice, repL, Value.cells]; rfl))) ?_
    refine opv_run (build_eq (l := [(0, 1), (1, 1)]) (z := #[.int .u8 0, .int .u8 0]) (by kernel_rfl) (by first | (simp [fillL, splice, repL, Value.cells]; done) | (simp [fillL, splice, repL, Value.cells]; rfl))) ?_
    refine opv_run (build_eq (l := [(0, 1), (1, 1)]) (z := #[.int .u8 0, .int .u8 0]) (by kernel_rfl) (by first | (simp [fillL, splice, repL, Value.cells]; done) | (simp [fillL, splice, repL, Value.cells]; rfl))) ?_
    refine buildSlice_intro (e := 142) (m := 2) (z := #[.int .u8 0, .int .u8 0]) (by kernel_rfl) (by kernel_rfl) (by rfl) (by decide) (by first | (simp [fillL, splice, repL, Value.cells]; done) | (simp [fillL, splice, repL, Value.cells]; rfl)) (fun b2 w2 e2 h_b2 _ U2 => ?_)
    have ge_b2 : w.heap.size ≤ b2 := by have := hF.size; omega
    replace hF := hF.go0 U2
    clear e2
    first | (subst_vars; exact ⟨_, rfl, _, _, rfl, hF, Rd.of_block (by assumption), GeA.of_block (by assumption)⟩) | exact ⟨_, rfl, none, 0, by simp [Gs.swapL, *], hF, by simp [Gs.swapL, *, prs, Rd.nil], .inl (by simp [Gs.swapL, *, prs])⟩
  · refine condf ?_
    refine opv_dec (eqI _ _ _ _ _) (fun h4 => ?_) (fun h4 => ?_)
    · refine condt ?_
      refine opv_run (build_eq (l := [(0, 1), (1, 1)]) (z := #[.int .u8 0, .int .u8 0]) (by kernel_rfl) (by first | (simp [fillL, splice, repL, Value.cells]; done) | (simp [fillL, splice, repL, Value.cells]; rfl))) ?_
      refine opv_run (build_eq (l := [(0, 1), (1, 1)]) (z := #[.int .u8 0, .int .u8 0]) (by kernel_rfl) (by first | (simp [fillL, splice, repL, Value.cells]; done) | (simp [fillL, splice, repL, Value.cells]; rfl))) ?_
      refine opv_run (build_eq (l := [(0, 1), (1, 1)]) (z := #[.int .u8 0, .int .u8 0]) (by kernel_rfl) (by first | (simp [fillL, splice, repL, Value.cells]; done) | (simp [fillL, splice, repL, Value.cells]; rfl))) ?_
      refine opv_run (build_eq (l := [(0, 1), (1, 1)]) (z := #[.int .u8 0, .int .u8 0]) (by kernel_rfl) (by first | (simp [fillL, splice, repL, Value.cells]; done) | (simp [fillL, splice, repL, Value.cells]; rfl))) ?_
      refine opv_run (build_eq (l := [(0, 1), (1, 1)]) (z := #[.int .u8 0, .int .u8 0]) (by kernel_rfl) (by first | (simp [fillL, splice, repL, Value.cells]; done) | (simp [fillL, splice, repL, Value.cells]; rfl))) ?_
      refine opv_run (build_eq (l := [(0, 1), (1, 1)]) (z := #[.int .u8 0, .int .u8 0]) (by kernel_rfl) (by first | (simp [fillL, splice, repL, Value.cells]; done) | (simp [fillL, splice, repL, Value.cells]; rfl))) ?_
      refine buildSlice_intro (e := 142) (m := 2) (z := #[.int .u8 0, .int .u8 0]) (by kernel_rfl) (by kernel_rfl) (by rfl) (by decide) (by first | (simp [fillL, splice, repL, Value.cells]; done) | (simp [fillL, splice, repL, Value.cells]; rfl)) (fun b5 w5 e5 h_b5 _ U5 => ?_)
      have ge_b5 : w.heap.size ≤ b5 := by have := hF.size; omega
      replace hF := hF.go0 U5
      clear e5
      first | (subst_vars; exact ⟨_, rfl, _, _, rfl, hF, Rd.of_block (by assumption), GeA.of_block (by assumption)⟩) | exact ⟨_, rfl, none, 0, by simp [Gs.swapL, *], hF, by simp [Gs.swapL, *, prs, Rd.nil], .inl (by simp [Gs.swapL, *, prs])⟩
    · refine condf ?_
      first | (subst_vars; exact ⟨_, rfl, _, _, rfl, hF, Rd.of_block (by assumption), GeA.of_block (by assumption)⟩) | exact ⟨_, rfl, none, 0, by simp [Gs.swapL, *], hF, by simp [Gs.swapL, *, prs, Rd.nil], .inl (by simp [Gs.swapL, *, prs])⟩

/-- greenscreen/code.Sign -/
theorem c_code_Sign {page b : Int} {w : World} (h0 : 0 ≤ b := by omega) (h1 : b < 256 := by omega) :
    Calls Tryz.prog 39 #[.int .i64 page, .int .u8 b] w fun e w' => e = .returned (.int .i32 (Gs.sign page b)) ∧ Upd no w w' := by
  refine F39.calls ?_
  unfold F39
  have l_plain := Gs.plainL_length
  have l_sw := Gs.swapL_le page
  have hF : Upd no w w := Fr.refl _ _ _
  refine join_cut (fun g w' => ((Gs.swapL page).find? (fun p => p.1 == b) = none) ∧ (Upd no w w')) (fun J1 hJ1 => ?_) (fun gJ1 wJ1 hI => ?_)
  · refine callF_ex (c_code_swaps) (fun v1 w1 D1 => ?_)
    obtain ⟨A8, c8, rfl, U1, rd8, gA8⟩ := D1
    replace hF := hF.go0 U1
    refine opv_run (len_sl (by kernel_rfl) _ _ _) ?_
    refine loop_intro (fun g w' => ∃ (k : Nat), (g 10 = .int .i64 (k : Int)) ∧ (k ≤ (Gs.swapL page).length) ∧ (((Gs.swapL page).take k).find? (fun p => p.1 == b) = none) ∧ (Rd w' A8 (prs (Gs.swapL page))) ∧ (Upd no w w')) (fun g w' => (Gs.swapL page).length - (RowKit.intOf (g 10)).toNat) ?_ (fun g2 wl2 hI => ?_)
    · exact ⟨0, (by first | exact g10 | rfl), Nat.zero_le _, rfl, rd8, hF⟩
    · obtain ⟨k, g10, hk, hall, rd8, hF⟩ := hI
      try rw [g10]
      refine opv_dec (lss _ _ _ _) (fun h2 => ?_) (fun h2 => ?_)
      · refine condt ?_
        have hk3 : k < ((Gs.swapL page)).length := by omega
        obtain ⟨p3, hp3⟩ : ∃ p, ((Gs.swapL page))[k]? = some p := ⟨_, List.getElem?_eq_getElem hk3⟩
        refine idx_loadA (m := 2) (by kernel_rfl) (by kernel_rfl) rd8 (by decide) (prs_length _).symm (by omega) (by omega) (prs_at _ _ p3 (by simpa using hp3)) ?_
        obtain ⟨q1, q2, q3, q4, q5⟩ := Gs.swap_get hp3
        refine alloc_intro (cs := #[.int .u8 0, .int .u8 0]) (by kernel_rfl) (fun b4 w4 e4 h_b4 _ U4 => ?_)
        have na_rd8_b4 := rd8.apart e4
        have ge_b4 : w.heap.size ≤ b4 := by have := hF.size; omega
        replace rd8 := rd8.upd0 U4
        replace hF := hF.go0 U4
        clear e4
        refine store_intro (n := 2) (by kernel_rfl) (by rfl) (by first | rfl | (simp [Value.cells, Value.oneCell']; done)) h_b4 (by first | exact Nat.le_of_ble_eq_true rfl | (simp; done) | omega) (by first | (simp; rfl) | rfl) (fun w5 N5 _ U5 => ?_)
        replace rd8 := rd8.upd1 U5 na_rd8_b4
        replace h_b4 := N5
        replace hF := hF.go1 U5 ge_b4
        refine opv_run (fieldAt_eq (off := 0) (by kernel_rfl)) ?_
        refine opv_run (ldC (by kernel_rfl) h_b4 (by rfl)) ?_
        refine opv_dec (eqI _ _ _ _ _) (fun h6 => ?_) (fun h6 => ?_)
        · refine condt ?_
          refine opv_run (fieldAt_eq (off := 1) (by kernel_rfl)) ?_
          refine opv_run (ldC (by kernel_rfl) h_b4 (by rfl)) ?_
          first | refine opv_run (conv_i32 (by kernel_rfl) (by kernel_rfl) (by omega)) ?_ | refine opv_run (convII (k := .i32) (by kernel_rfl) (by kernel_rfl)) ?_
          first | exact ⟨retI (Gs.sign_none hnone hx?), hF⟩ | exact ⟨retI (Gs.sign_some (find_some hp3 hall (by simpa using by assumption))), hF⟩
        · refine condf ?_
          first | refine opv_run (add_i64 _ (by omega)) ?_ | refine opv_run (addI _ _ _ _) ?_
          exact ⟨⟨k + 1, (by first | exact g10 | rfl), by omega, (find_take hp3 hall (by simpa using by assumption)), rd8, hF⟩, cnt_lt (by first | rfl | exact g10) rfl (by omega)⟩
      · refine condf ?_
        refine hJ1 _ _ ?_
        exact ⟨(by rw [← hall, List.take_of_length_le (by omega)]), hF⟩
  · obtain ⟨hnone, hF⟩ := hI
    refine callF_val (c_code_plain) (fun w8 U8 => ?_)
    replace hF := hF.go0 U8
    refine index_arrI (n := 256) (by kernel_rfl) (by first | assumption | simp [*]) (by omega) (by omega) (fun x9 hx9 => ?_)
    try simp only [Int.toNat_natCast] at hx9
    have q := Gs.plain_get hx9
    first | refine opv_run (conv_i32 (by kernel_rfl) (by kernel_rfl) (by omega)) ?_ | refine opv_run (convII (k := .i32) (by kernel_rfl) (by kernel_rfl)) ?_
    first | exact ⟨retI (Gs.sign_none hnone hx9), hF⟩ | exact ⟨retI (Gs.sign_some (find_some hp3 hall (by simpa using by assumption))), hF⟩

/-- greenscreen/code.Table -/
theorem c_code_Table {page : Int} {w : World} :
    Calls Tryz.prog 56 #[.int .i64 page] w fun e w' => e = .returned (.agg (vals .i32 (Gs.tab page)).toArray) ∧ Upd no w w' := by
  refine F56.calls ?_
  unfold F56
  have l_plain := Gs.plainL_length
  have l_sw := Gs.swapL_le page
  have hF : Upd no w w := Fr.refl _ _ _
  refine alloc_intro (cs := (vals .i32 (List.replicate 256 0)).toArray) (by kernel_rfl) (fun b1 w1 e1 h_b1 _ U1 => ?_)
  have ge_b1 : w.heap.size ≤ b1 := by have := hF.size; omega
  replace hF := hF.go0 U1
  clear e1
  refine alloc_intro (cs := (vals .i32 (List.replicate 256 0)).toArray) (by kernel_rfl) (fun b2 w2 e2 h_b2 _ U2 => ?_)
  have ne_b1_b2 : b1 ≠ b2 := by have := lt_get h_b1; omega
  have ge_b2 : w.heap.size ≤ b2 := by have := hF.size; omega
  replace h_b1 := U2.get0 h_b1
  replace hF := hF.go0 U2
  clear e2
  refine join_cut (fun g w' => (w'.heap[b1]? = some (.cells (vals .i32 (List.replicate 256 0)).toArray 109 (0, 0))) ∧ (w'.heap[b2]? = some (.cells (vals .i32 Gs.plainL).toArray 109 (0, 0))) ∧ (Upd no w w')) (fun J1 hJ1 => ?_) (fun gJ1 wJ1 hI => ?_)
  · refine callF_val (c_code_plain) (fun w3 U3 => ?_)
    replace h_b1 := U3.get0 h_b1
    replace h_b2 := U3.get0 h_b2
    replace hF := hF.go0 U3
    refine loop_intro (fun g w' => ∃ (k : Nat), (g 9 = .int .i64 (k : Int)) ∧ (k ≤ 256) ∧ (w'.heap[b1]? = some (.cells (vals .i32 (List.replicate 256 0)).toArray 109 (0, 0))) ∧ (w'.heap[b2]? = some (.cells (vals .i32 (Gs.plainL.take k ++ List.replicate (Gs.plainL.length - k) 0)).toArray 109 (0, 0))) ∧ (Upd no w w')) (fun g w' => 256 - (RowKit.intOf (g 9)).toNat) ?_ (fun g2 wl2 hI => ?_)
    · exact ⟨0, (by first | exact g9 | rfl), Nat.zero_le _, h_b1, (by rw [List.take_zero, List.nil_append, Nat.sub_zero, Gs.plainL_length]; exact h_b2), hF⟩
    · obtain ⟨k, g9, hk, h_b1, h_b2, hF⟩ := hI
      try rw [g9]
      refine opv_dec (lss _ _ _ _) (fun h4 => ?_) (fun h4 => ?_)
      · refine condt ?_
        refine index_arrI (n := 256) (by kernel_rfl) (by first | assumption | simp [*]) (by omega) (by omega) (fun x5 hx5 => ?_)
        try simp only [Int.toNat_natCast] at hx5
        have q := Gs.plain_get hx5
        first | refine opv_run (conv_i32 (by kernel_rfl) (by kernel_rfl) (by omega)) ?_ | refine opv_run (convII (k := .i32) (by kernel_rfl) (by kernel_rfl)) ?_
        refine opv_run (index_arrp (n := 256) (m := 1) (by kernel_rfl) (by omega) (by omega)) ?_
        refine store1_intro (by kernel_rfl) rfl rfl h_b2 (by first | exact Nat.le_of_ble_eq_true rfl | (simp; done) | omega | (simp [vals_length, *]; done) | (simp [vals_length, *]; omega)) (by first | (simp [vals_set]; rfl) | rfl) (fun w6 N6 _ U6 => ?_)
        replace h_b1 := U6.get1 h_b1 ne_b1_b2
        replace h_b2 := N6
        replace hF := hF.go1 U6 ge_b2
        first | refine opv_run (add_i64 _ (by omega)) ?_ | refine opv_run (addI _ _ _ _) ?_
        exact ⟨⟨k + 1, (by first | exact g9 | rfl), by omega, h_b1, (by rw [← fill_step hx5]; exact h_b2), hF⟩, cnt_lt (by first | rfl | exact g9) rfl (by omega)⟩
      · refine condf ?_
        refine hJ1 _ _ ?_
        exact ⟨h_b1, (by rw [show k = Gs.plainL.length by omega] at h_b2; simpa using h_b2), hF⟩
  · obtain ⟨h_b1, h_b2, hF⟩ := hI
    refine join_cut (fun g w' => (w'.heap[b1]? = some (.cells (vals .i32 (List.replicate 256 0)).toArray 109 (0, 0))) ∧ (w'.heap[b2]? = some (.cells (vals .i32 (Gs.tab page)).toArray 109 (0, 0))) ∧ (Upd no w w')) (fun J3 hJ3 => ?_) (fun gJ3 wJ3 hI => ?_)
    · refine callF_ex (c_code_swaps) (fun v7 w7 D7 => ?_)
      obtain ⟨A19, c19, rfl, U7, rd19, gA19⟩ := D7
      have na_rd19_b1 := gA19.ne (lt_get h_b1)
      have na_rd19_b2 := gA19.ne (lt_get h_b2)
      replace h_b1 := U7.get0 h_b1
      replace h_b2 := U7.get0 h_b2
      replace hF := hF.go0 U7
      refine opv_run (len_sl (by kernel_rfl) _ _ _) ?_
      refine loop_intro (fun g w' => ∃ (k : Nat), (g 21 = .int .i64 (k : Int)) ∧ (k ≤ (Gs.swapL page).length) ∧ (w'.heap[b1]? = some (.cells (vals .i32 (List.replicate 256 0)).toArray 109 (0, 0))) ∧ (w'.heap[b2]? = some (.cells (vals .i32 (Gs.tabIn ((Gs.swapL page).take k))).toArray 109 (0, 0))) ∧ (Rd w' A19 (prs (Gs.swapL page))) ∧ (Upd no w w')) (fun g w' => (Gs.swapL page).length - (RowKit.intOf (g 21)).toNat) ?_ (fun g4 wl4 hI => ?_)
      · exact ⟨0, (by first | exact g21 | rfl), Nat.zero_le _, h_b1, (by rw [List.take_zero, Gs.tabIn_nil]; exact h_b2), rd19, hF⟩
      · obtain ⟨k, g21, hk, h_b1, h_b2, rd19, hF⟩ := hI
        try rw [g21]
        have l_tab := Gs.tabIn_length ((Gs.swapL page).take k)
        refine opv_dec (lss _ _ _ _) (fun h8 => ?_) (fun h8 => ?_)
        · refine condt ?_
          have hk9 : k < ((Gs.swapL page)).length := by omega
          obtain ⟨p9, hp9⟩ : ∃ p, ((Gs.swapL page))[k]? = some p := ⟨_, List.getElem?_eq_getElem hk9⟩
          refine idx_loadA (m := 2) (by kernel_rfl) (by kernel_rfl) rd19 (by decide) (prs_length _).symm (by omega) (by omega) (prs_at _ _ p9 (by simpa using hp9)) ?_
          obtain ⟨q1, q2, q3, q4, q5⟩ := Gs.swap_get hp9
          refine alloc_intro (cs := #[.int .u8 0, .int .u8 0]) (by kernel_rfl) (fun b10 w10 e10 h_b10 _ U10 => ?_)
          have ne_b1_b10 : b1 ≠ b10 := by have := lt_get h_b1; omega
          have ne_b2_b10 : b2 ≠ b10 := by have := lt_get h_b2; omega
          have na_rd19_b10 := rd19.apart e10
          have ge_b10 : w.heap.size ≤ b10 := by have := hF.size; omega
          replace rd19 := rd19.upd0 U10
          replace h_b1 := U10.get0 h_b1
          replace h_b2 := U10.get0 h_b2
          replace hF := hF.go0 U10
          clear e10
          refine store_intro (n := 2) (by kernel_rfl) (by rfl) (by first | rfl | (simp [Value.cells, Value.oneCell']; done)) h_b10 (by first | exact Nat.le_of_ble_eq_true rfl | (simp; done) | omega) (by first | (simp; rfl) | rfl) (fun w11 N11 _ U11 => ?_)
          replace rd19 := rd19.upd1 U11 na_rd19_b10
          replace h_b1 := U11.get1 h_b1 ne_b1_b10
          replace h_b2 := U11.get1 h_b2 ne_b2_b10
          replace h_b10 := N11
          replace hF := hF.go1 U11 ge_b10
          refine opv_run (fieldAt_eq (off := 0) (by kernel_rfl)) ?_
          refine opv_run (ldC (by kernel_rfl) h_b10 (by rfl)) ?_
          refine opv_run (fieldAt_eq (off := 1) (by kernel_rfl)) ?_
          refine opv_run (ldC (by kernel_rfl) h_b10 (by rfl)) ?_
          first | refine opv_run (conv_i32 (by kernel_rfl) (by kernel_rfl) (by omega)) ?_ | refine opv_run (convII (k := .i32) (by kernel_rfl) (by kernel_rfl)) ?_
          refine opv_run (index_arrp (n := 256) (m := 1) (by kernel_rfl) (by omega) (by omega)) ?_
          refine store1_intro (by kernel_rfl) rfl rfl h_b2 (by first | exact Nat.le_of_ble_eq_true rfl | (simp; done) | omega | (simp [vals_length, *]; done) | (simp [vals_length, *]; omega)) (by first | (simp [vals_set]; rfl) | rfl) (fun w12 N12 _ U12 => ?_)
          replace rd19 := rd19.upd1 U12 na_rd19_b2
          replace h_b1 := U12.get1 h_b1 ne_b1_b2
          replace h_b10 := U12.get1 h_b10 (Ne.symm ne_b2_b10)
          replace h_b2 := N12
          replace hF := hF.go1 U12 ge_b2
          first | refine opv_run (add_i64 _ (by omega)) ?_ | refine opv_run (addI _ _ _ _) ?_
          exact ⟨⟨k + 1, (by first | exact g21 | rfl), by omega, h_b1, (by rw [← q5]; exact h_b2), rd19, hF⟩, cnt_lt (by first | rfl | exact g21) rfl (by omega)⟩
        · refine condf ?_
          refine hJ3 _ _ ?_
          exact ⟨h_b1, (by rw [List.take_of_length_le (by omega)] at h_b2; exact h_b2), hF⟩
    · obtain ⟨h_b1, h_b2, hF⟩ := hI
      refine opv_run (ldAll (n := 256) (by kernel_rfl) h_b2 (by first | rfl | simp [vals_length, *])) ?_
      refine storeAll_intro (n := 256) (by kernel_rfl) (by first | rfl | simp [vals_length, *]) (by first | rfl | simp [vals_length, *]) (by first | exact vals_one | assumption) h_b1 (fun w13 N13 _ U13 => ?_)
      replace h_b2 := U13.get1 h_b2 (Ne.symm ne_b1_b2)
      replace h_b1 := N13
      replace hF := hF.go1 U13 ge_b1
      refine ldv_run (ldAll (n := 256) (by kernel_rfl) h_b1 (by first | rfl | simp [vals_length, *])) ?_
      exact ⟨rfl, hF⟩

end Go.Proofs.YtjdoakbadehicaaGreatDoor
