/-
  Contracts of functions of the program, walked over their shallow forms. No condition but the ones that each states.
-/
import Derived.Test.YtojcbhkhfcddnaaPa
namespace Go.Proofs.Ytojcbhkhfcddnaa
open Go Go.Sh
set_option linter.unusedVariables false
set_option maxRecDepth 100000


/-- greenscreen/addr.Move -/
theorem c_addr_Move {r c i j : Int} {w : World} :
    Calls Try.prog 43 #[.agg #[.int .i64 r, .int .i64 c], .int .i64 i, .int .i64 j] w fun e w' => e = .returned (.int .i64 (Gs.moveN (Gs.cellsN r c) i j)) ∧ Upd no w w' := by
  refine F43.calls ?_
  unfold F43
  have hcb := Gs.cells_bd r c
  have hF : Upd no w w := Fr.refl _ _ _
  refine box_intro (by rfl) (fun b1 w1 e1 h_b1 _ U1 => ?_)
  have ge_b1 : w.heap.size ≤ b1 := by have := hF.size; omega
  replace hF := hF.go0 U1
  clear e1
  refine opv_run (ldA (n := 2) (by kernel_rfl) h_b1 (by first | exact Nat.le_of_ble_eq_true rfl | (simp; done) | omega) (by rfl)) ?_
  refine callF_val (c_addr_Cells) (fun w2 U2 => ?_)
  replace h_b1 := U2.get0 h_b1
  replace hF := hF.go0 U2
  refine opv_dec (eqI _ _ _ _ _) (fun h3 => ?_) (fun h3 => ?_)
  · refine condt ?_
    first | exact ⟨retI (by unfold Gs.moveN; rw [if_pos (by omega)]), hF⟩ | exact ⟨retI (Gs.move_eq (by omega)), hF⟩
  · refine condf ?_
    refine drawn_S (S := no) (fun w5 U5 => ?_)
    replace h_b1 := U5.get0 h_b1
    replace hF := hF.go0 U5
    refine qop_run (fun w' hw' => (remT _ (by omega) (by omega))) ?_
    refine qop_run (fun w' hw' => (remT _ (by omega) (by omega))) ?_
    have m1 := Gs.tmod_bd i (show 0 < Gs.cellsN r c by omega)
    have m2 := Gs.tmod_bd j (show 0 < Gs.cellsN r c by omega)
    first | refine qop_run (fun w' hw' => (add_i64 _ (by omega))) ?_ | refine qop_run (fun w' hw' => (addI _ _ _ _)) ?_
    refine qop_run (fun w' hw' => (remT _ (by omega) (by omega))) ?_
    have m3 := Gs.tmod_bd (i.tmod (Gs.cellsN r c) + j.tmod (Gs.cellsN r c)) (show 0 < Gs.cellsN r c by omega)
    first | refine qop_run (fun w' hw' => (add_i64 _ (by omega))) ?_ | refine qop_run (fun w' hw' => (addI _ _ _ _)) ?_
    refine qop_run (fun w' hw' => (remT _ (by omega) (by omega))) ?_
    refine ext_intro (fun w6 U6 => ?_)
    replace h_b1 := U6.get0 h_b1
    replace hF := hF.go0 U6
    first | exact ⟨retI (by unfold Gs.moveN; rw [if_pos (by omega)]), hF⟩ | exact ⟨retI (Gs.move_eq (by omega)), hF⟩

/-- greenscreen/plane.New -/
theorem c_plane_New0 {r c : Int} {w : World} (hz : (Gs.cellsN r c) = 0) :
    Calls Try.prog 36 #[.agg #[.int .i64 r, .int .i64 c]] w fun e w' => e = .returned (.tuple #[.pointer none, .int .i64 1]) ∧ Upd no w w' := by
  refine F36.calls ?_
  unfold F36
  have hF : Upd no w w := Fr.refl _ _ _
  refine box_intro (by rfl) (fun b1 w1 e1 h_b1 _ U1 => ?_)
  have ge_b1 : w.heap.size ≤ b1 := by have := hF.size; omega
  replace hF := hF.go0 U1
  clear e1
  refine opv_run (ldA (n := 2) (by kernel_rfl) h_b1 (by first | exact Nat.le_of_ble_eq_true rfl | (simp; done) | omega) (by rfl)) ?_
  refine callF_val (c_addr_Cells) (fun w2 U2 => ?_)
  replace h_b1 := U2.get0 h_b1
  replace hF := hF.go0 U2
  refine opv_T (eqI _ _ _ _ _) (hz) ?_
  refine condt ?_
  exact ⟨rfl, hF⟩

/-- greenscreen/plane.New -/
theorem c_plane_New1 {r c : Int} {w : World} (hz : (Gs.cellsN r c) ≠ 0) :
    Calls Try.prog 36 #[.agg #[.int .i64 r, .int .i64 c]] w fun e w' => ∃ v, e = .returned v ∧ ∃ bp g, v = .tuple #[.pointer (some ⟨bp, 0, none⟩), .int .i64 0] ∧ w.heap.size ≤ bp ∧ w'.heap[bp]? = some (.cells #[.int .i64 r, .int .i64 c, .slice (some ⟨g, 0, none⟩) (Gs.cellsN r c).toNat (Gs.cellsN r c).toNat, .int .i64 0] 102 (0, 0)) ∧ Own w.heap.size w' 45 5 (.slice (some ⟨g, 0, none⟩) (Gs.cellsN r c).toNat (Gs.cellsN r c).toNat) (rows Gs.cv (List.replicate (Gs.cellsN r c).toNat Gs.zc)) ∧ Upd no w w' := by
  refine F36.calls ?_
  unfold F36
  have hcb := Gs.cells_bd r c
  have hF : Upd no w w := Fr.refl _ _ _
  refine box_intro (by rfl) (fun b1 w1 e1 h_b1 _ U1 => ?_)
  have ge_b1 : w.heap.size ≤ b1 := by have := hF.size; omega
  replace hF := hF.go0 U1
  clear e1
  refine opv_run (ldA (n := 2) (by kernel_rfl) h_b1 (by first | exact Nat.le_of_ble_eq_true rfl | (simp; done) | omega) (by rfl)) ?_
  refine callF_val (c_addr_Cells) (fun w2 U2 => ?_)
  replace h_b1 := U2.get0 h_b1
  replace hF := hF.go0 U2
  refine opv_F (eqI _ _ _ _ _) (hz) ?_
  refine condf ?_
  refine drawn_S (S := no) (fun w3 U3 => ?_)
  replace h_b1 := U3.get0 h_b1
  replace hF := hF.go0 U3
  refine qop_run (fun w' hw' => by have h_b1 := hw'.get0 h_b1; exact (ldA (n := 2) (by kernel_rfl) h_b1 (by first | exact Nat.le_of_ble_eq_true rfl | (simp; done) | omega) (by rfl))) ?_
  refine ext_intro (fun w4 U4 => ?_)
  replace h_b1 := U4.get0 h_b1
  replace hF := hF.go0 U4
  refine lop_i ?_
  refine makeRows (e := 45) (bytes := 5) (z := Gs.zc) Gs.encC (by kernel_rfl) (by kernel_rfl) (by omega) (by omega) (fun b5 w5 e5 own_b5 _ U5 => ?_)
  have ne_b1_b5 : b1 ≠ b5 := by have := lt_get h_b1; omega
  have ge_b5 : w.heap.size ≤ b5 := by have := hF.size; omega
  replace own_b5 := own_b5.mono (B' := w.heap.size) (by have := hF.size; omega)
  replace h_b1 := U5.get0 h_b1
  replace hF := hF.go0 U5
  clear e5
  refine ⟨U5, ?_⟩
  refine qop_run (fun w' hw' => (build_eq (l := [(0, 2), (2, 1), (3, 1)]) (z := #[.int .i64 0, .int .i64 0, .slice none 0 0, .int .i64 0]) (by kernel_rfl) (by first | (simp [fillL, splice, repL, Value.cells]; done) | (simp [fillL, splice, repL, Value.cells]; rfl)))) ?_
  refine ext_intro (fun w6 U6 => ?_)
  replace own_b5 := own_b5.upd0 U6
  replace h_b1 := U6.get0 h_b1
  replace hF := hF.go0 U6
  refine lop_i ?_
  refine box_intro (by rfl) (fun b7 w7 e7 h_b7 _ U7 => ?_)
  have ne_b1_b7 : b1 ≠ b7 := by have := lt_get h_b1; omega
  have na_own_b5_b7 := own_b5.apart e7
  have ge_b7 : w.heap.size ≤ b7 := by have := hF.size; omega
  replace own_b5 := own_b5.upd0 U7
  replace h_b1 := U7.get0 h_b1
  replace hF := hF.go0 U7
  clear e7
  refine ⟨U7, ?_⟩
  refine ext_intro (fun w8 U8 => ?_)
  replace own_b5 := own_b5.upd0 U8
  replace h_b1 := U8.get0 h_b1
  replace h_b7 := U8.get0 h_b7
  replace hF := hF.go0 U8
  exact ⟨_, rfl, _, _, rfl, by assumption, by assumption, by assumption, hF⟩

/-- greenscreen/greenscreenref14.New -/
theorem c_ref14_New0 {r c : Int} {w : World} (hz : (Gs.cellsN r c) = 0) :
    Calls Try.prog 38 #[.agg #[.int .i64 r, .int .i64 c]] w fun e w' => e = .returned (.tuple #[.agg #[.int .i64 0, .int .i64 0, .slice none 0 0, .int .i64 0], .int .i64 1]) ∧ Upd no w w' := by
  refine F38.calls ?_
  unfold F38
  have hF : Upd no w w := Fr.refl _ _ _
  refine box_intro (by rfl) (fun b1 w1 e1 h_b1 _ U1 => ?_)
  have ge_b1 : w.heap.size ≤ b1 := by have := hF.size; omega
  replace hF := hF.go0 U1
  clear e1
  refine alloc_intro (cs := #[.int .i64 0, .int .i64 0, .slice none 0 0, .int .i64 0]) (by kernel_rfl) (fun b2 w2 e2 h_b2 _ U2 => ?_)
  have ne_b1_b2 : b1 ≠ b2 := by have := lt_get h_b1; omega
  have ge_b2 : w.heap.size ≤ b2 := by have := hF.size; omega
  replace h_b1 := U2.get0 h_b1
  replace hF := hF.go0 U2
  clear e2
  refine opv_run (ldA (n := 2) (by kernel_rfl) h_b1 (by first | exact Nat.le_of_ble_eq_true rfl | (simp; done) | omega) (by rfl)) ?_
  refine callF_val (c_greenscreenref02_Cells) (fun w3 U3 => ?_)
  replace h_b1 := U3.get0 h_b1
  replace h_b2 := U3.get0 h_b2
  replace hF := hF.go0 U3
  refine opv_T (eqI _ _ _ _ _) (hz) ?_
  refine condt ?_
  refine opv_run (build_eq (l := [(0, 2), (2, 1), (3, 1)]) (z := #[.int .i64 0, .int .i64 0, .slice none 0 0, .int .i64 0]) (by kernel_rfl) (by first | (simp [fillL, splice, repL, Value.cells]; done) | (simp [fillL, splice, repL, Value.cells]; rfl))) ?_
  refine store_intro (n := 4) (by kernel_rfl) (by rfl) (by first | rfl | (simp [Value.cells, Value.oneCell', Gs.cv]; done)) h_b2 (by first | exact Nat.le_of_ble_eq_true rfl | (simp; done) | omega) (by first | (simp; rfl) | rfl) (fun w4 N4 _ U4 => ?_)
  replace h_b1 := U4.get1 h_b1 ne_b1_b2
  replace h_b2 := N4
  replace hF := hF.go1 U4 ge_b2
  refine ldv_run (ldA (n := 4) (by kernel_rfl) h_b2 (by first | exact Nat.le_of_ble_eq_true rfl | simp | omega) (by rfl)) ?_
  exact ⟨rfl, hF⟩

/-- greenscreen/greenscreenref14.New -/
theorem c_ref14_New1 {r c : Int} {w : World} (hz : (Gs.cellsN r c) ≠ 0) :
    Calls Try.prog 38 #[.agg #[.int .i64 r, .int .i64 c]] w fun e w' => ∃ v, e = .returned v ∧ ∃ g, v = .tuple #[.agg #[.int .i64 r, .int .i64 c, .slice (some ⟨g, 0, none⟩) (Gs.cellsN r c).toNat (Gs.cellsN r c).toNat, .int .i64 0], .int .i64 0] ∧ Own w.heap.size w' 45 5 (.slice (some ⟨g, 0, none⟩) (Gs.cellsN r c).toNat (Gs.cellsN r c).toNat) (rows Gs.cv (List.replicate (Gs.cellsN r c).toNat Gs.zc)) ∧ Upd no w w' := by
  refine F38.calls ?_
  unfold F38
  have hcb := Gs.cells_bd r c
  have hF : Upd no w w := Fr.refl _ _ _
  refine box_intro (by rfl) (fun b1 w1 e1 h_b1 _ U1 => ?_)
  have ge_b1 : w.heap.size ≤ b1 := by have := hF.size; omega
  replace hF := hF.go0 U1
  clear e1
  refine alloc_intro (cs := #[.int .i64 0, .int .i64 0, .slice none 0 0, .int .i64 0]) (by kernel_rfl) (fun b2 w2 e2 h_b2 _ U2 => ?_)
  have ne_b1_b2 : b1 ≠ b2 := by have := lt_get h_b1; omega
  have ge_b2 : w.heap.size ≤ b2 := by have := hF.size; omega
  replace h_b1 := U2.get0 h_b1
  replace hF := hF.go0 U2
  clear e2
  refine opv_run (ldA (n := 2) (by kernel_rfl) h_b1 (by first | exact Nat.le_of_ble_eq_true rfl | (simp; done) | omega) (by rfl)) ?_
  refine callF_val (c_greenscreenref02_Cells) (fun w3 U3 => ?_)
  replace h_b1 := U3.get0 h_b1
  replace h_b2 := U3.get0 h_b2
  replace hF := hF.go0 U3
  refine opv_F (eqI _ _ _ _ _) (hz) ?_
  refine condf ?_
  refine drawn_S (S := no) (fun w4 U4 => ?_)
  replace h_b1 := U4.get0 h_b1
  replace h_b2 := U4.get0 h_b2
  replace hF := hF.go0 U4
  refine qop_run (fun w' hw' => by have h_b1 := hw'.get0 h_b1; exact (ldA (n := 2) (by kernel_rfl) h_b1 (by first | exact Nat.le_of_ble_eq_true rfl | (simp; done) | omega) (by rfl))) ?_
  refine ext_intro (fun w5 U5 => ?_)
  replace h_b1 := U5.get0 h_b1
  replace h_b2 := U5.get0 h_b2
  replace hF := hF.go0 U5
  refine lop_i ?_
  refine makeRows (e := 45) (bytes := 5) (z := Gs.zc) Gs.encC (by kernel_rfl) (by kernel_rfl) (by omega) (by omega) (fun b6 w6 e6 own_b6 _ U6 => ?_)
  have ne_b1_b6 : b1 ≠ b6 := by have := lt_get h_b1; omega
  have ne_b2_b6 : b2 ≠ b6 := by have := lt_get h_b2; omega
  have ge_b6 : w.heap.size ≤ b6 := by have := hF.size; omega
  replace own_b6 := own_b6.mono (B' := w.heap.size) (by have := hF.size; omega)
  replace h_b1 := U6.get0 h_b1
  replace h_b2 := U6.get0 h_b2
  replace hF := hF.go0 U6
  clear e6
  refine ⟨U6, ?_⟩
  refine qop_run (fun w' hw' => (build_eq (l := [(0, 2), (2, 1), (3, 1)]) (z := #[.int .i64 0, .int .i64 0, .slice none 0 0, .int .i64 0]) (by kernel_rfl) (by first | (simp [fillL, splice, repL, Value.cells]; done) | (simp [fillL, splice, repL, Value.cells]; rfl)))) ?_
  refine ext_intro (fun w7 U7 => ?_)
  replace own_b6 := own_b6.upd0 U7
  replace h_b1 := U7.get0 h_b1
  replace h_b2 := U7.get0 h_b2
  replace hF := hF.go0 U7
  refine store_intro (n := 4) (by kernel_rfl) (by rfl) (by first | rfl | (simp [Value.cells, Value.oneCell', Gs.cv]; done)) h_b2 (by first | exact Nat.le_of_ble_eq_true rfl | (simp; done) | omega) (by first | (simp; rfl) | rfl) (fun w8 N8 _ U8 => ?_)
  replace own_b6 := own_b6.upd1 U8 (by first | assumption | exact Own.ne_blk own_b6 (by assumption) (by decide) | exact Own.not_loop own_b6 (by assumption) (by assumption) | exact Own.not_def own_b6 (by assumption))
  replace h_b1 := U8.get1 h_b1 ne_b1_b2
  replace h_b2 := N8
  replace hF := hF.go1 U8 ge_b2
  refine ext_intro (fun w9 U9 => ?_)
  replace own_b6 := own_b6.upd0 U9
  replace h_b1 := U9.get0 h_b1
  replace h_b2 := U9.get0 h_b2
  replace hF := hF.go0 U9
  refine ldv_run (ldA (n := 4) (by kernel_rfl) h_b2 (by first | exact Nat.le_of_ble_eq_true rfl | simp | omega) (by rfl)) ?_
  exact ⟨_, rfl, _, rfl, by assumption, hF⟩

end Go.Proofs.Ytojcbhkhfcddnaa
