/-
  Contracts of functions of the program, walked over their shallow forms. No condition but the ones that each states.
-/
import Derived.Test.YtojcbhkhfcddnaaDoorPg
namespace Go.Proofs.YtojcbhkhfcddnaaDoor
open Go Go.Sh
set_option linter.unusedVariables false
set_option maxRecDepth 100000


/-- greenscreen/greenscreenlaw14.made -/
theorem c_made_0 {r c : Int} {A : Option Addr} {n cp : Nat} {cs : List Gs.Cell} {w : World} (rd1 : Rd w A (rows Gs.cv cs)) (hn : n = cs.length) (hnm : n ≤ 9223372036854775807) (hz : Gs.cellsN r c = 0) :
    Calls Tryd.prog 21 #[.agg #[.int .i64 r, .int .i64 c], .slice A n cp] w fun e w' => ∃ v, e = .returned v ∧ ∃ (x1 x2 x3 : Int) (x4 : Option Addr) (x5 x6 : Nat), v = .tuple #[.pointer none, .agg #[.int .i64 x1, .int .i64 x2, .slice x4 x5 x6, .int .i64 x3], .bool false] ∧ Upd no w w' := by
  refine F21.calls ?_
  unfold F21
  have lt_rd1 := Rd.lt rd1
  have hF : Upd no w w := Fr.refl _ _ _
  refine box_intro (by rfl) (fun b1 w1 e1 h_b1 _ U1 => ?_)
  have na_rd1_b1 := rd1.apart e1
  have ge_b1 : w.heap.size ≤ b1 := by have := hF.size; omega
  replace rd1 := rd1.upd0 U1
  replace hF := hF.go0 U1
  clear e1
  refine alloc_intro (cs := #[.int .i64 0, .int .i64 0, .slice none 0 0, .int .i64 0]) (by kernel_rfl) (fun b2 w2 e2 h_b2 _ U2 => ?_)
  have na_rd1_b2 := rd1.apart e2
  have ne_b1_b2 : b1 ≠ b2 := by have := lt_get h_b1; omega
  have ge_b2 : w.heap.size ≤ b2 := by have := hF.size; omega
  replace rd1 := rd1.upd0 U2
  replace h_b1 := U2.get0 h_b1
  replace hF := hF.go0 U2
  clear e2
  refine opv_run (ldA (n := 2) (by kernel_rfl) h_b1 (by first | exact Nat.le_of_ble_eq_true rfl | (simp; done) | omega) (by rfl)) ?_
  refine callF_val (c_plane_New0 hz) (fun w3 U3 => ?_)
  replace rd1 := rd1.upd0 U3
  replace h_b1 := U3.get0 h_b1
  replace h_b2 := U3.get0 h_b2
  replace hF := hF.go0 U3
  refine opv_run (ext_t (by rfl)) ?_
  refine opv_run (ext_t (by rfl)) ?_
  refine opv_run (ldA (n := 2) (by kernel_rfl) h_b1 (by first | exact Nat.le_of_ble_eq_true rfl | (simp; done) | omega) (by rfl)) ?_
  refine callF_val (c_ref14_New0 hz) (fun w4 U4 => ?_)
  replace rd1 := rd1.upd0 U4
  replace h_b1 := U4.get0 h_b1
  replace h_b2 := U4.get0 h_b2
  replace hF := hF.go0 U4
  refine opv_run (ext_t (by rfl)) ?_
  refine opv_run (ext_t (by rfl)) ?_
  refine alloc_intro (cs := #[.int .i64 0, .int .i64 0, .slice none 0 0, .int .i64 0]) (by kernel_rfl) (fun b5 w5 e5 h_b5 _ U5 => ?_)
  have na_rd1_b5 := rd1.apart e5
  have ne_b1_b5 : b1 ≠ b5 := by have := lt_get h_b1; omega
  have ne_b2_b5 : b2 ≠ b5 := by have := lt_get h_b2; omega
  have ge_b5 : w.heap.size ≤ b5 := by have := hF.size; omega
  replace rd1 := rd1.upd0 U5
  replace h_b1 := U5.get0 h_b1
  replace h_b2 := U5.get0 h_b2
  replace hF := hF.go0 U5
  clear e5
  refine store_intro (n := 4) (by kernel_rfl) (by rfl) (by first | rfl | (simp [Value.cells, Value.oneCell', Gs.cv]; done)) h_b5 (by first | exact Nat.le_of_ble_eq_true rfl | (simp; done) | omega) (by first | (simp; rfl) | rfl) (fun w6 N6 _ U6 => ?_)
  replace rd1 := rd1.upd1 U6 na_rd1_b5
  replace h_b1 := U6.get1 h_b1 ne_b1_b5
  replace h_b2 := U6.get1 h_b2 ne_b2_b5
  replace h_b5 := N6
  replace hF := hF.go1 U6 ge_b5
  refine opv_T (neI _ _ _ _ _) (by decide) ?_
  refine gdtf ?_
  refine gdtf ?_
  refine pickt ?_
  refine gdtf ?_
  refine gdtf ?_
  refine gdtf ?_
  refine gdtf ?_
  refine pickt ?_
  refine condt ?_
  refine drawn_S (S := no) (fun w7 U7 => ?_)
  replace rd1 := rd1.upd0 U7
  replace h_b1 := U7.get0 h_b1
  replace h_b2 := U7.get0 h_b2
  replace h_b5 := U7.get0 h_b5
  replace hF := hF.go0 U7
  refine qop_run (fun w' hw' => by have h_b5 := hw'.get0 h_b5; exact (ldA (n := 4) (by kernel_rfl) h_b5 (by first | exact Nat.le_of_ble_eq_true rfl | (simp; done) | omega) (by rfl))) ?_
  refine ext_intro (fun w8 U8 => ?_)
  replace rd1 := rd1.upd0 U8
  replace h_b1 := U8.get0 h_b1
  replace h_b2 := U8.get0 h_b2
  replace h_b5 := U8.get0 h_b5
  replace hF := hF.go0 U8
  refine store_intro (n := 4) (by kernel_rfl) (by rfl) (by first | rfl | (simp [Value.cells, Value.oneCell', Gs.cv]; done)) h_b2 (by first | exact Nat.le_of_ble_eq_true rfl | (simp; done) | omega) (by first | (simp; rfl) | rfl) (fun w9 N9 _ U9 => ?_)
  replace rd1 := rd1.upd1 U9 na_rd1_b2
  replace h_b1 := U9.get1 h_b1 ne_b1_b2
  replace h_b2 := N9
  replace h_b5 := U9.get1 h_b5 (Ne.symm ne_b2_b5)
  replace hF := hF.go1 U9 ge_b2
  refine ext_intro (fun w10 U10 => ?_)
  replace rd1 := rd1.upd0 U10
  replace h_b1 := U10.get0 h_b1
  replace h_b2 := U10.get0 h_b2
  replace h_b5 := U10.get0 h_b5
  replace hF := hF.go0 U10
  refine ldv_run (ldA (n := 4) (by kernel_rfl) h_b2 (by first | exact Nat.le_of_ble_eq_true rfl | simp | omega) (by rfl)) ?_
  exact ⟨_, rfl, _, _, _, _, _, _, rfl, hF⟩

/-- greenscreen/greenscreenlaw14.made -/
theorem c_made_big {r c : Int} {A : Option Addr} {n cp : Nat} {N : Nat} {cs : List Gs.Cell} {w : World} (rd1 : Rd w A (rows Gs.cv cs)) (hn : n = cs.length) (hnm : n ≤ 9223372036854775807) (hN : Gs.cellsN r c = N) (hz : 200 < N) :
    Calls Tryd.prog 21 #[.agg #[.int .i64 r, .int .i64 c], .slice A n cp] w fun e w' => ∃ v, e = .returned v ∧ ∃ (x1 x2 x3 : Int) (x4 : Option Addr) (x5 x6 : Nat), v = .tuple #[.pointer none, .agg #[.int .i64 x1, .int .i64 x2, .slice x4 x5 x6, .int .i64 x3], .bool false] ∧ Upd no w w' := by
  refine F21.calls ?_
  unfold F21
  have lt_rd1 := Rd.lt rd1
  have hF : Upd no w w := Fr.refl _ _ _
  refine box_intro (by rfl) (fun b1 w1 e1 h_b1 _ U1 => ?_)
  have na_rd1_b1 := rd1.apart e1
  have ge_b1 : w.heap.size ≤ b1 := by have := hF.size; omega
  replace rd1 := rd1.upd0 U1
  replace hF := hF.go0 U1
  clear e1
  refine alloc_intro (cs := #[.int .i64 0, .int .i64 0, .slice none 0 0, .int .i64 0]) (by kernel_rfl) (fun b2 w2 e2 h_b2 _ U2 => ?_)
  have na_rd1_b2 := rd1.apart e2
  have ne_b1_b2 : b1 ≠ b2 := by have := lt_get h_b1; omega
  have ge_b2 : w.heap.size ≤ b2 := by have := hF.size; omega
  replace rd1 := rd1.upd0 U2
  replace h_b1 := U2.get0 h_b1
  replace hF := hF.go0 U2
  clear e2
  refine opv_run (ldA (n := 2) (by kernel_rfl) h_b1 (by first | exact Nat.le_of_ble_eq_true rfl | (simp; done) | omega) (by rfl)) ?_
  refine callF_ex (c_plane_New1 (r := r) (c := c) (by omega)) (fun v3 w3 D3 => ?_)
  obtain ⟨bp, gp, rfl, gbp, h_bp, own_p, U3⟩ := D3
  rw [show (Gs.cellsN r c).toNat = N by omega] at h_bp own_p
  have na_rd1_bp := (Rd.lt rd1).ne (b := bp) (by omega)
  have ne_b1_bp : b1 ≠ bp := by have := lt_get h_b1; omega
  have ne_b2_bp : b2 ≠ bp := by have := lt_get h_b2; omega
  have ge_bp : w.heap.size ≤ bp := by have := hF.size; omega
  have nx3_rd1_own_p : _ ∨ ∀ k, blkOf _ k → ¬ ownS _ k := (Rd.lt rd1).imp_right fun h k hk hs => by have := h k hk; have := (Own.ge own_p hs).1; omega
  have nx3_h_b1_own_p : ¬ ownS _ b1 := fun h => by have := (Own.ge own_p h).1; have := lt_get h_b1; omega
  have nx3_h_b2_own_p : ¬ ownS _ b2 := fun h => by have := (Own.ge own_p h).1; have := lt_get h_b2; omega
  replace own_p := own_p.mono (B' := w.heap.size) hF.size
  replace rd1 := rd1.upd0 U3
  replace h_b1 := U3.get0 h_b1
  replace h_b2 := U3.get0 h_b2
  replace hF := hF.go0 U3
  refine opv_run (ext_t (by rfl)) ?_
  refine opv_run (ext_t (by rfl)) ?_
  refine opv_run (ldA (n := 2) (by kernel_rfl) h_b1 (by first | exact Nat.le_of_ble_eq_true rfl | (simp; done) | omega) (by rfl)) ?_
  refine callF_ex (c_ref14_New1 (r := r) (c := c) (by omega)) (fun v4 w4 D4 => ?_)
  obtain ⟨gx, rfl, own_x, U4⟩ := D4
  rw [show (Gs.cellsN r c).toNat = N by omega] at own_x
  have nx4_rd1_own_x : _ ∨ ∀ k, blkOf _ k → ¬ ownS _ k := (Rd.lt rd1).imp_right fun h k hk hs => by have := h k hk; have := (Own.ge own_x hs).1; omega
  have nx4_h_b1_own_x : ¬ ownS _ b1 := fun h => by have := (Own.ge own_x h).1; have := lt_get h_b1; omega
  have nx4_h_b2_own_x : ¬ ownS _ b2 := fun h => by have := (Own.ge own_x h).1; have := lt_get h_b2; omega
  have nx4_h_bp_own_x : ¬ ownS _ bp := fun h => by have := (Own.ge own_x h).1; have := lt_get h_bp; omega
  have nx4_own_p_own_x : ∀ k, ownS _ k → ¬ ownS _ k := fun k hk hs => by have := (Own.ge own_p hk).2; have := (Own.ge own_x hs).1; omega
  replace own_x := own_x.mono (B' := w.heap.size) hF.size
  replace rd1 := rd1.upd0 U4
  replace own_p := own_p.upd0 U4
  replace h_b1 := U4.get0 h_b1
  replace h_b2 := U4.get0 h_b2
  replace h_bp := U4.get0 h_bp
  replace hF := hF.go0 U4
  rw [show (Gs.cellsN r c).toNat = N by omega]
  refine opv_run (ext_t (by rfl)) ?_
  refine opv_run (ext_t (by rfl)) ?_
  refine alloc_intro (cs := #[.int .i64 0, .int .i64 0, .slice none 0 0, .int .i64 0]) (by kernel_rfl) (fun b5 w5 e5 h_b5 _ U5 => ?_)
  have na_rd1_b5 := rd1.apart e5
  have ne_b1_b5 : b1 ≠ b5 := by have := lt_get h_b1; omega
  have ne_b2_b5 : b2 ≠ b5 := by have := lt_get h_b2; omega
  have ne_bp_b5 : bp ≠ b5 := by have := lt_get h_bp; omega
  have na_own_p_b5 := own_p.apart e5
  have na_own_x_b5 := own_x.apart e5
  have ge_b5 : w.heap.size ≤ b5 := by have := hF.size; omega
  replace rd1 := rd1.upd0 U5
  replace own_p := own_p.upd0 U5
  replace own_x := own_x.upd0 U5
  replace h_b1 := U5.get0 h_b1
  replace h_b2 := U5.get0 h_b2
  replace h_bp := U5.get0 h_bp
  replace hF := hF.go0 U5
  clear e5
  refine store_intro (n := 4) (by kernel_rfl) (by rfl) (by first | rfl | (simp [Value.cells, Value.oneCell', Gs.cv]; done)) h_b5 (by first | exact Nat.le_of_ble_eq_true rfl | (simp; done) | omega) (by first | (simp; rfl) | rfl) (fun w6 N6 _ U6 => ?_)
  replace rd1 := rd1.upd1 U6 na_rd1_b5
  replace own_p := own_p.upd1 U6 na_own_p_b5
  replace own_x := own_x.upd1 U6 na_own_x_b5
  replace h_b1 := U6.get1 h_b1 ne_b1_b5
  replace h_b2 := U6.get1 h_b2 ne_b2_b5
  replace h_bp := U6.get1 h_bp ne_bp_b5
  replace h_b5 := N6
  replace hF := hF.go1 U6 ge_b5
  refine opv_F (neI _ _ _ _ _) (by decide) ?_
  refine gdff ?_
  refine gdff ?_
  refine opv_F (neI _ _ _ _ _) (by decide) ?_
  refine pickf ?_
  refine gdff ?_
  refine opv_run (fieldAt_eq (off := 2) (by kernel_rfl)) ?_
  refine gdff ?_
  refine opv_run (ldC (by kernel_rfl) h_b5 (by rfl)) ?_
  refine gdff ?_
  refine opv_run (len_sl (by kernel_rfl) _ _ _) ?_
  refine gdff ?_
  refine opv_T (gtr _ _ _ _) (by omega) ?_
  refine pickf ?_
  refine condt ?_
  refine drawn_S (S := no) (fun w7 U7 => ?_)
  replace rd1 := rd1.upd0 U7
  replace own_p := own_p.upd0 U7
  replace own_x := own_x.upd0 U7
  replace h_b1 := U7.get0 h_b1
  replace h_b2 := U7.get0 h_b2
  replace h_bp := U7.get0 h_bp
  replace h_b5 := U7.get0 h_b5
  replace hF := hF.go0 U7
  refine qop_run (fun w' hw' => by have h_b5 := hw'.get0 h_b5; exact (ldA (n := 4) (by kernel_rfl) h_b5 (by first | exact Nat.le_of_ble_eq_true rfl | (simp; done) | omega) (by rfl))) ?_
  refine ext_intro (fun w8 U8 => ?_)
  replace rd1 := rd1.upd0 U8
  replace own_p := own_p.upd0 U8
  replace own_x := own_x.upd0 U8
  replace h_b1 := U8.get0 h_b1
  replace h_b2 := U8.get0 h_b2
  replace h_bp := U8.get0 h_bp
  replace h_b5 := U8.get0 h_b5
  replace hF := hF.go0 U8
  refine store_intro (n := 4) (by kernel_rfl) (by rfl) (by first | rfl | (simp [Value.cells, Value.oneCell', Gs.cv]; done)) h_b2 (by first | exact Nat.le_of_ble_eq_true rfl | (simp; done) | omega) (by first | (simp; rfl) | rfl) (fun w9 N9 _ U9 => ?_)
  replace rd1 := rd1.upd1 U9 na_rd1_b2
  replace own_p := own_p.upd1 U9 (by first | assumption | exact Own.ne_blk own_p (by assumption) (by decide) | exact Own.not_loop own_p (by assumption) (by assumption) | exact Own.not_def own_p (by assumption))
  replace own_x := own_x.upd1 U9 (by first | assumption | exact Own.ne_blk own_x (by assumption) (by decide) | exact Own.not_loop own_x (by assumption) (by assumption) | exact Own.not_def own_x (by assumption))
  replace h_b1 := U9.get1 h_b1 ne_b1_b2
  replace h_b2 := N9
  replace h_bp := U9.get1 h_bp (Ne.symm ne_b2_bp)
  replace h_b5 := U9.get1 h_b5 (Ne.symm ne_b2_b5)
  replace hF := hF.go1 U9 ge_b2
  refine ext_intro (fun w10 U10 => ?_)
  replace rd1 := rd1.upd0 U10
  replace own_p := own_p.upd0 U10
  replace own_x := own_x.upd0 U10
  replace h_b1 := U10.get0 h_b1
  replace h_b2 := U10.get0 h_b2
  replace h_bp := U10.get0 h_bp
  replace h_b5 := U10.get0 h_b5
  replace hF := hF.go0 U10
  refine ldv_run (ldA (n := 4) (by kernel_rfl) h_b2 (by first | exact Nat.le_of_ble_eq_true rfl | simp | omega) (by rfl)) ?_
  exact ⟨_, rfl, _, _, _, _, _, _, rfl, hF⟩

/-- greenscreen/greenscreenlaw14.made -/
theorem c_made_ok {r c : Int} {A : Option Addr} {n cp : Nat} {N : Nat} {cs : List Gs.Cell} {w : World} (rd1 : Rd w A (rows Gs.cv cs)) (hn : n = cs.length) (hnm : n ≤ 9223372036854775807) (hN : Gs.cellsN r c = N) (hz : N ≠ 0) (hz2 : N ≤ 200) :
    Calls Tryd.prog 21 #[.agg #[.int .i64 r, .int .i64 c], .slice A n cp] w fun e w' => ∃ v, e = .returned v ∧ ∃ bp gp gx, v = .tuple #[.pointer (some ⟨bp, 0, none⟩), .agg #[.int .i64 r, .int .i64 c, .slice (some ⟨gx, 0, none⟩) N N, .int .i64 0], .bool true] ∧ w.heap.size ≤ bp ∧ w'.heap[bp]? = some (.cells #[.int .i64 r, .int .i64 c, .slice (some ⟨gp, 0, none⟩) N N, .int .i64 0] 66 (0, 0)) ∧ Own w.heap.size w' 36 5 (.slice (some ⟨gp, 0, none⟩) N N) (rows Gs.cv (Gs.madeK N cs cs.length)) ∧ Own w.heap.size w' 36 5 (.slice (some ⟨gx, 0, none⟩) N N) (rows Gs.cv (Gs.madeK N cs cs.length)) ∧ gp ≠ gx ∧ Upd no w w' := by
  refine F21.calls ?_
  unfold F21
  subst hn
  have lt_rd1 := Rd.lt rd1
  have hF : Upd no w w := Fr.refl _ _ _
  refine box_intro (by rfl) (fun b1 w1 e1 h_b1 _ U1 => ?_)
  have na_rd1_b1 := rd1.apart e1
  have ge_b1 : w.heap.size ≤ b1 := by have := hF.size; omega
  replace rd1 := rd1.upd0 U1
  replace hF := hF.go0 U1
  clear e1
  refine alloc_intro (cs := #[.int .i64 0, .int .i64 0, .slice none 0 0, .int .i64 0]) (by kernel_rfl) (fun b2 w2 e2 h_b2 _ U2 => ?_)
  have na_rd1_b2 := rd1.apart e2
  have ne_b1_b2 : b1 ≠ b2 := by have := lt_get h_b1; omega
  have ge_b2 : w.heap.size ≤ b2 := by have := hF.size; omega
  replace rd1 := rd1.upd0 U2
  replace h_b1 := U2.get0 h_b1
  replace hF := hF.go0 U2
  clear e2
  refine opv_run (ldA (n := 2) (by kernel_rfl) h_b1 (by first | exact Nat.le_of_ble_eq_true rfl | (simp; done) | omega) (by rfl)) ?_
  refine callF_ex (c_plane_New1 (r := r) (c := c) (by omega)) (fun v3 w3 D3 => ?_)
  obtain ⟨bp, gp, rfl, gbp, h_bp, own_p, U3⟩ := D3
  rw [show (Gs.cellsN r c).toNat = N by omega] at h_bp own_p
  have na_rd1_bp := (Rd.lt rd1).ne (b := bp) (by omega)
  have ne_b1_bp : b1 ≠ bp := by have := lt_get h_b1; omega
  have ne_b2_bp : b2 ≠ bp := by have := lt_get h_b2; omega
  have ge_bp : w.heap.size ≤ bp := by have := hF.size; omega
  have nx3_rd1_own_p : _ ∨ ∀ k, blkOf _ k → ¬ ownS _ k := (Rd.lt rd1).imp_right fun h k hk hs => by have := h k hk; have := (Own.ge own_p hs).1; omega
  have nx3_h_b1_own_p : ¬ ownS _ b1 := fun h => by have := (Own.ge own_p h).1; have := lt_get h_b1; omega
  have nx3_h_b2_own_p : ¬ ownS _ b2 := fun h => by have := (Own.ge own_p h).1; have := lt_get h_b2; omega
  replace own_p := own_p.mono (B' := w.heap.size) hF.size
  replace rd1 := rd1.upd0 U3
  replace h_b1 := U3.get0 h_b1
  replace h_b2 := U3.get0 h_b2
  replace hF := hF.go0 U3
  refine opv_run (ext_t (by rfl)) ?_
  refine opv_run (ext_t (by rfl)) ?_
  refine opv_run (ldA (n := 2) (by kernel_rfl) h_b1 (by first | exact Nat.le_of_ble_eq_true rfl | (simp; done) | omega) (by rfl)) ?_
  refine callF_ex (c_ref14_New1 (r := r) (c := c) (by omega)) (fun v4 w4 D4 => ?_)
  obtain ⟨gx, rfl, own_x, U4⟩ := D4
  rw [show (Gs.cellsN r c).toNat = N by omega] at own_x
  have nx4_rd1_own_x : _ ∨ ∀ k, blkOf _ k → ¬ ownS _ k := (Rd.lt rd1).imp_right fun h k hk hs => by have := h k hk; have := (Own.ge own_x hs).1; omega
  have nx4_h_b1_own_x : ¬ ownS _ b1 := fun h => by have := (Own.ge own_x h).1; have := lt_get h_b1; omega
  have nx4_h_b2_own_x : ¬ ownS _ b2 := fun h => by have := (Own.ge own_x h).1; have := lt_get h_b2; omega
  have nx4_h_bp_own_x : ¬ ownS _ bp := fun h => by have := (Own.ge own_x h).1; have := lt_get h_bp; omega
  have nx4_own_p_own_x : ∀ k, ownS _ k → ¬ ownS _ k := fun k hk hs => by have := (Own.ge own_p hk).2; have := (Own.ge own_x hs).1; omega
  replace own_x := own_x.mono (B' := w.heap.size) hF.size
  replace rd1 := rd1.upd0 U4
  replace own_p := own_p.upd0 U4
  replace h_b1 := U4.get0 h_b1
  replace h_b2 := U4.get0 h_b2
  replace h_bp := U4.get0 h_bp
  replace hF := hF.go0 U4
  rw [show (Gs.cellsN r c).toNat = N by omega]
  refine opv_run (ext_t (by rfl)) ?_
  refine opv_run (ext_t (by rfl)) ?_
  refine alloc_intro (cs := #[.int .i64 0, .int .i64 0, .slice none 0 0, .int .i64 0]) (by kernel_rfl) (fun b5 w5 e5 h_b5 _ U5 => ?_)
  have na_rd1_b5 := rd1.apart e5
  have ne_b1_b5 : b1 ≠ b5 := by have := lt_get h_b1; omega
  have ne_b2_b5 : b2 ≠ b5 := by have := lt_get h_b2; omega
  have ne_bp_b5 : bp ≠ b5 := by have := lt_get h_bp; omega
  have na_own_p_b5 := own_p.apart e5
  have na_own_x_b5 := own_x.apart e5
  have ge_b5 : w.heap.size ≤ b5 := by have := hF.size; omega
  replace rd1 := rd1.upd0 U5
  replace own_p := own_p.upd0 U5
  replace own_x := own_x.upd0 U5
  replace h_b1 := U5.get0 h_b1
  replace h_b2 := U5.get0 h_b2
  replace h_bp := U5.get0 h_bp
  replace hF := hF.go0 U5
  clear e5
  refine store_intro (n := 4) (by kernel_rfl) (by rfl) (by first | rfl | (simp [Value.cells, Value.oneCell', Gs.cv]; done)) h_b5 (by first | exact Nat.le_of_ble_eq_true rfl | (simp; done) | omega) (by first | (simp; rfl) | rfl) (fun w6 N6 _ U6 => ?_)
  replace rd1 := rd1.upd1 U6 na_rd1_b5
  replace own_p := own_p.upd1 U6 na_own_p_b5
  replace own_x := own_x.upd1 U6 na_own_x_b5
  replace h_b1 := U6.get1 h_b1 ne_b1_b5
  replace h_b2 := U6.get1 h_b2 ne_b2_b5
  replace h_bp := U6.get1 h_bp ne_bp_b5
  replace h_b5 := N6
  replace hF := hF.go1 U6 ge_b5
  refine opv_F (neI _ _ _ _ _) (by decide) ?_
  refine gdff ?_
  refine gdff ?_
  refine opv_F (neI _ _ _ _ _) (by decide) ?_
  refine pickf ?_
  refine gdff ?_
  refine opv_run (fieldAt_eq (off := 2) (by kernel_rfl)) ?_
  refine gdff ?_
  refine opv_run (ldC (by kernel_rfl) h_b5 (by rfl)) ?_
  refine gdff ?_
  refine opv_run (len_sl (by kernel_rfl) _ _ _) ?_
  refine gdff ?_
  refine opv_F (gtr _ _ _ _) (by omega) ?_
  refine pickf ?_
  refine condf ?_
  refine join_cut (fun g w' => (Own w.heap.size w' 36 5 (.slice (some ⟨gp, 0, none⟩) N N) (rows Gs.cv (Gs.madeK N cs cs.length))) ∧ (Own w.heap.size w' 36 5 (.slice (some ⟨gx, 0, none⟩) N N) (rows Gs.cv (Gs.madeK N cs cs.length))) ∧ (w'.heap[bp]? = some (.cells #[.int .i64 r, .int .i64 c, .slice (some ⟨gp, 0, none⟩) N N, .int .i64 0] 66 (0, 0))) ∧ (w'.heap[b5]? = some (.cells #[.int .i64 r, .int .i64 c, .slice (some ⟨gx, 0, none⟩) N N, .int .i64 0] 32 (0, 0))) ∧ (w'.heap[b2]? = some (.cells #[.int .i64 0, .int .i64 0, .slice none 0 0, .int .i64 0] 32 (0, 0))) ∧ (Rd w' A (rows Gs.cv cs)) ∧ (Upd no w w')) (fun J1 hJ1 => ?_) (fun gJ1 wJ1 hI => ?_)
  · refine opv_run (len_sl (by kernel_rfl) _ _ _) ?_
    refine loop_intro (fun g w' => ∃ (k : Nat), (g 38 = .int .i64 (k : Int)) ∧ (k ≤ cs.length) ∧ (Own w.heap.size w' 36 5 (.slice (some ⟨gp, 0, none⟩) N N) (rows Gs.cv (Gs.madeK N cs k))) ∧ (Own w.heap.size w' 36 5 (.slice (some ⟨gx, 0, none⟩) N N) (rows Gs.cv (Gs.madeK N cs k))) ∧ (w'.heap[bp]? = some (.cells #[.int .i64 r, .int .i64 c, .slice (some ⟨gp, 0, none⟩) N N, .int .i64 0] 66 (0, 0))) ∧ (w'.heap[b5]? = some (.cells #[.int .i64 r, .int .i64 c, .slice (some ⟨gx, 0, none⟩) N N, .int .i64 0] 32 (0, 0))) ∧ (w'.heap[b2]? = some (.cells #[.int .i64 0, .int .i64 0, .slice none 0 0, .int .i64 0] 32 (0, 0))) ∧ (Rd w' A (rows Gs.cv cs)) ∧ (Upd no w w')) (fun g w' => cs.length - (RowKit.intOf (g 38)).toNat) ?_ (fun g2 wl2 hI => ?_)
    · exact ⟨0, (by first | exact g38 | rfl), Nat.zero_le _, (by rw [Gs.made_0]; exact own_p), (by rw [Gs.made_0]; exact own_x), h_bp, h_b5, h_b2, rd1, hF⟩
    · obtain ⟨k, g38, hk, own_p, own_x, h_bp, h_b5, h_b2, rd1, hF⟩ := hI
      try rw [g38]
      have hml := Gs.made_len N cs k
      refine opv_dec (lss _ _ _ _) (fun h7 => ?_) (fun h7 => ?_)
      · refine condt ?_
        refine join_cut (fun g w' => (Own w.heap.size w' 36 5 (.slice (some ⟨gp, 0, none⟩) N N) (rows Gs.cv (Gs.madeK N cs (k + 1)))) ∧ (Own w.heap.size w' 36 5 (.slice (some ⟨gx, 0, none⟩) N N) (rows Gs.cv (Gs.madeK N cs (k + 1)))) ∧ (w'.heap[bp]? = some (.cells #[.int .i64 r, .int .i64 c, .slice (some ⟨gp, 0, none⟩) N N, .int .i64 0] 66 (0, 0))) ∧ (w'.heap[b5]? = some (.cells #[.int .i64 r, .int .i64 c, .slice (some ⟨gx, 0, none⟩) N N, .int .i64 0] 32 (0, 0))) ∧ (w'.heap[b2]? = some (.cells #[.int .i64 0, .int .i64 0, .slice none 0 0, .int .i64 0] 32 (0, 0))) ∧ (Rd w' A (rows Gs.cv cs)) ∧ (Upd no w w')) (fun J3 hJ3 => ?_) (fun gJ3 wJ3 hI => ?_)
        · refine idx_rows Gs.encC (by kernel_rfl) (by kernel_rfl) rd1 (by first | rfl | assumption | omega) (by omega) (by omega) (fun x8 hx8 => ?_)
          try simp only [Int.toNat_natCast] at hx8
          refine alloc_intro (cs := (Gs.cv Gs.zc).toArray) (by kernel_rfl) (fun b9 w9 e9 h_b9 _ U9 => ?_)
          have na_own_p_b9 := own_p.apart e9
          have na_own_x_b9 := own_x.apart e9
          have ne_bp_b9 : bp ≠ b9 := by have := lt_get h_bp; omega
          have ne_b5_b9 : b5 ≠ b9 := by have := lt_get h_b5; omega
          have ne_b2_b9 : b2 ≠ b9 := by have := lt_get h_b2; omega
          have na_rd1_b9 := rd1.apart e9
          have ge_b9 : w.heap.size ≤ b9 := by have := hF.size; omega
          replace own_p := own_p.upd0 U9
          replace own_x := own_x.upd0 U9
          replace rd1 := rd1.upd0 U9
          replace h_bp := U9.get0 h_bp
          replace h_b5 := U9.get0 h_b5
          replace h_b2 := U9.get0 h_b2
          replace hF := hF.go0 U9
          clear e9
          refine store_intro (n := 5) (cs' := (Gs.cv x8).toArray) (by kernel_rfl) (by rfl) (by first | rfl | (simp [Value.cells, Value.oneCell', Gs.cv]; done)) h_b9 (by first | exact Nat.le_of_ble_eq_true rfl | (simp; done) | omega) (by rfl) (fun w10 N10 _ U10 => ?_)
          replace own_p := own_p.upd1 U10 na_own_p_b9
          replace own_x := own_x.upd1 U10 na_own_x_b9
          replace rd1 := rd1.upd1 U10 na_rd1_b9
          replace h_bp := U10.get1 h_bp ne_bp_b9
          replace h_b5 := U10.get1 h_b5 ne_b5_b9
          replace h_b2 := U10.get1 h_b2 ne_b2_b9
          replace h_b9 := N10
          replace hF := hF.go1 U10 ge_b9
          refine opv_run (fieldAt_eq (off := 2) (by kernel_rfl)) ?_
          refine opv_run (ldC (by kernel_rfl) h_b5 (by rfl)) ?_
          refine opv_run (len_sl (by kernel_rfl) _ _ _) ?_
          refine opv_dec (lss _ _ _ _) (fun h11 => ?_) (fun h11 => ?_)
          · refine condt ?_
            refine opv_run (ldA (n := 5) (cs' := (Gs.cv x8).toArray) (by kernel_rfl) h_b9 (by first | exact Nat.le_of_ble_eq_true rfl | (simp; done) | omega) (by rfl)) ?_
            refine callF_ex (c_Plane_Set h_bp own_p (Gs.made_len N cs k).symm (i := (k : Int)) (x := x8)) (fun v12 w12 D12 => ?_)
            obtain ⟨rfl, N12, U12⟩ := D12
            have own_p_o := own_p
            replace own_p := N12
            replace own_x := own_x.updS U12 (fun k hk hs => nx4_own_p_own_x k hs hk)
            replace h_bp := U12.get h_bp (fun h => by first | (have := Own.ge own_p_o h; omega) | exact Own.ne_blk own_p_o h_bp (by decide) _ h rfl | exact Own.not_loop own_p_o h_bp (by assumption) _ h rfl | exact Own.not_def own_p_o h_bp _ h rfl | simp_all)
            replace h_b5 := U12.get h_b5 (fun h => na_own_p_b5 _ h rfl)
            replace h_b2 := U12.get h_b2 nx3_h_b2_own_p
            replace rd1 := rd1.updS U12 nx3_rd1_own_p
            replace h_b9 := U12.get h_b9 (fun h => na_own_p_b9 _ h rfl)
            replace hF := hF.go U12 (fun i h hs => by first | exact hs | exact .inl hs | exact .inr hs | (have := (Own.ge own_p_o hs).1; omega))
            clear own_p_o
            refine opv_run (fieldAt_eq (off := 2) (by kernel_rfl)) ?_
            refine opv_run (ldC (by kernel_rfl) h_b5 (by rfl)) ?_
            refine opv_run (ldA (n := 5) (cs' := (Gs.cv x8).toArray) (by kernel_rfl) h_b9 (by first | exact Nat.le_of_ble_eq_true rfl | (simp; done) | omega) (by rfl)) ?_
            obtain ⟨g13, hg13, _⟩ := own_x.at (by rw [rows_len Gs.encC]; omega)
            first | subst hg13 | cases hg13
            refine opv_run (index_slice (n := 5) (by kernel_rfl) (by omega) (by omega)) ?_
            refine store_row (i := (k : Int)) Gs.encC (by kernel_rfl) own_x (by omega) (by omega) rfl (fun w14 N14 _ U14 => ?_)
            have own_x_o := own_x
            replace own_p := own_p.updS U14 nx4_own_p_own_x
            replace own_x := N14
            replace h_bp := U14.get h_bp nx4_h_bp_own_x
            replace h_b5 := U14.get h_b5 (fun h => na_own_x_b5 _ h rfl)
            replace h_b2 := U14.get h_b2 nx4_h_b2_own_x
            replace rd1 := rd1.updS U14 nx4_rd1_own_x
            replace h_b9 := U14.get h_b9 (fun h => na_own_x_b9 _ h rfl)
            replace hF := hF.go U14 (fun i h hs => by first | exact hs | exact .inl hs | exact .inr hs | (have := (Own.ge own_x_o hs).1; omega))
            clear own_x_o
            refine hJ3 _ _ ?_
            exact ⟨(by first | (rw [← Gs.made_in hx8 (by omega)]; rw [Gs.setC_in _ (by omega) (by rw [Gs.made_len]; omega)] at own_p; exact own_p) | (rw [Gs.made_out (by omega) (by omega)]; exact own_p)), (by first | (rw [← Gs.made_in hx8 (by omega)]; exact own_x) | (rw [Gs.made_out (by omega) (by omega)]; exact own_x)), h_bp, h_b5, h_b2, rd1, hF⟩
          · refine condf ?_
            refine hJ3 _ _ ?_
            exact ⟨(by first | (rw [← Gs.made_in hx8 (by omega)]; rw [Gs.setC_in _ (by omega) (by rw [Gs.made_len]; omega)] at own_p; exact own_p) | (rw [Gs.made_out (by omega) (by omega)]; exact own_p)), (by first | (rw [← Gs.made_in hx8 (by omega)]; exact own_x) | (rw [Gs.made_out (by omega) (by omega)]; exact own_x)), h_bp, h_b5, h_b2, rd1, hF⟩
        · obtain ⟨own_p, own_x, h_bp, h_b5, h_b2, rd1, hF⟩ := hI
          first | refine opv_run (add_i64 _ (by omega)) ?_ | refine opv_run (addI _ _ _ _) ?_
          exact ⟨⟨k + 1, (by first | exact g38 | rfl), by omega, own_p, own_x, h_bp, h_b5, h_b2, rd1, hF⟩, cnt_lt (by first | rfl | exact g38) rfl (by omega)⟩
      · refine condf ?_
        refine hJ1 _ _ ?_
        exact ⟨(by rw [show cs.length = k by omega]; exact own_p), (by rw [show cs.length = k by omega]; exact own_x), h_bp, h_b5, h_b2, rd1, hF⟩
  · obtain ⟨own_p, own_x, h_bp, h_b5, h_b2, rd1, hF⟩ := hI
    refine drawn_S (S := no) (fun w15 U15 => ?_)
    replace own_p := own_p.upd0 U15
    replace own_x := own_x.upd0 U15
    replace rd1 := rd1.upd0 U15
    replace h_bp := U15.get0 h_bp
    replace h_b5 := U15.get0 h_b5
    replace h_b2 := U15.get0 h_b2
    replace hF := hF.go0 U15
    refine qop_run (fun w' hw' => by have h_b5 := hw'.get0 h_b5; exact (ldA (n := 4) (by kernel_rfl) h_b5 (by first | exact Nat.le_of_ble_eq_true rfl | (simp; done) | omega) (by rfl))) ?_
    refine ext_intro (fun w16 U16 => ?_)
    replace own_p := own_p.upd0 U16
    replace own_x := own_x.upd0 U16
    replace rd1 := rd1.upd0 U16
    replace h_bp := U16.get0 h_bp
    replace h_b5 := U16.get0 h_b5
    replace h_b2 := U16.get0 h_b2
    replace hF := hF.go0 U16
    refine store_intro (n := 4) (by kernel_rfl) (by rfl) (by first | rfl | (simp [Value.cells, Value.oneCell', Gs.cv]; done)) h_b2 (by first | exact Nat.le_of_ble_eq_true rfl | (simp; done) | omega) (by first | (simp; rfl) | rfl) (fun w17 N17 _ U17 => ?_)
    replace own_p := own_p.upd1 U17 (by first | assumption | exact Own.ne_blk own_p (by assumption) (by decide) | exact Own.not_loop own_p (by assumption) (by assumption) | exact Own.not_def own_p (by assumption))
    replace own_x := own_x.upd1 U17 (by first | assumption | exact Own.ne_blk own_x (by assumption) (by decide) | exact Own.not_loop own_x (by assumption) (by assumption) | exact Own.not_def own_x (by assumption))
    replace rd1 := rd1.upd1 U17 na_rd1_b2
    replace h_bp := U17.get1 h_bp (Ne.symm ne_b2_bp)
    replace h_b5 := U17.get1 h_b5 (Ne.symm ne_b2_b5)
    replace h_b2 := N17
    replace hF := hF.go1 U17 ge_b2
    refine ext_intro (fun w18 U18 => ?_)
    replace own_p := own_p.upd0 U18
    replace own_x := own_x.upd0 U18
    replace rd1 := rd1.upd0 U18
    replace h_bp := U18.get0 h_bp
    replace h_b5 := U18.get0 h_b5
    replace h_b2 := U18.get0 h_b2
    replace hF := hF.go0 U18
    refine ldv_run (ldA (n := 4) (by kernel_rfl) h_b2 (by first | exact Nat.le_of_ble_eq_true rfl | simp | omega) (by rfl)) ?_
    exact ⟨_, rfl, bp, gp, gx, rfl, by assumption, h_bp, own_p, own_x, fun he => by subst he; exact nx4_own_p_own_x _ rfl rfl, hF⟩

end Go.Proofs.YtojcbhkhfcddnaaDoor
