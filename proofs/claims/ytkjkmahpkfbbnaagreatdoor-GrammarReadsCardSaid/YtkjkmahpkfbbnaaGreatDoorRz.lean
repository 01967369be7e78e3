/-
  2 texts in one: what each theorem says stands at it. No condition but the ones that each states.
-/
import Derived.Test.YtkjkmahpkfbbnaaGreatDoorRc
import Derived.Test.YtkjkmahpkfbbnaaGreatDoorGramReadsA
namespace Go.Proofs.YtkjkmahpkfbbnaaGreatDoor
open Go Go.Sh
set_option linter.unusedVariables false
set_option maxRecDepth 100000


/-- greenscreen/greenscreenlaw25.GrammarReads -/
theorem c_reads_0 {r c i x : Int} {A : Option Addr} {n cp : Nat} {N : Nat} {cs : List Gs.Cell} {gT : Nat} {eT : TypeId} {fT : Nat × Nat} {w : World} (rd1 : Rd w A (rows Gs.cv cs)) (hn : n = cs.length) (hnm : n ≤ 9223372036854775807) (hgT : Tryz.prog.globalNamed "internal/strconv.uint64pow10" = some gT) (h_gT : w.heap[gT]? = some (.cells Gs.powT eT fT))  (hz : Gs.cellsN r c = 0) :
    Calls Tryz.prog 3 #[.agg #[.int .i64 r, .int .i64 c], .slice A n cp, .int .i64 i, .int .u8 x] w fun e w' => e = .returned (.bool true) ∧ Upd no w w' := by
  refine F3.calls ?_
  unfold F3
  have lt_rd1 := rd1.lt
  have lt_h_gT := lt_get h_gT
  have hF : Upd no w w := Fr.refl _ _ _
  refine box_intro (by rfl) (fun b1 w1 e1 h_b1 _ U1 => ?_)
  have na_rd1_b1 := rd1.apart e1
  have ne_gT_b1 : gT ≠ b1 := by have := lt_get h_gT; omega
  have ge_b1 : w.heap.size ≤ b1 := by have := hF.size; omega
  replace rd1 := rd1.upd0 U1
  replace h_gT := U1.get0 h_gT
  replace hF := hF.go0 U1
  clear e1
  refine callF_T (c_law25_alive hgT h_gT) (rfl) (fun w2 U2 => ?_)
  replace rd1 := rd1.upd0 U2
  replace h_gT := U2.get0 h_gT
  replace h_b1 := U2.get0 h_b1
  replace hF := hF.go0 U2
  refine opv_run (notT) ?_
  refine condf ?_
  refine opv_run (ldA (n := 2) (by kernel_rfl) h_b1 (by first | exact Nat.le_of_ble_eq_true rfl | (simp; done) | omega) (by rfl)) ?_
  refine callF_val (c_ref14_New0 hz) (fun w3 U3 => ?_)
  replace rd1 := rd1.upd0 U3
  replace h_gT := U3.get0 h_gT
  replace h_b1 := U3.get0 h_b1
  replace hF := hF.go0 U3
  refine opv_run (ext_t (by rfl)) ?_
  refine opv_run (ext_t (by rfl)) ?_
  refine alloc_intro (cs := #[.int .i64 0, .int .i64 0, .slice none 0 0, .int .i64 0]) (by kernel_rfl) (fun b4 w4 e4 h_b4 _ U4 => ?_)
  have na_rd1_b4 := rd1.apart e4
  have ne_gT_b4 : gT ≠ b4 := by have := lt_get h_gT; omega
  have ne_b1_b4 : b1 ≠ b4 := by have := lt_get h_b1; omega
  have ge_b4 : w.heap.size ≤ b4 := by have := hF.size; omega
  replace rd1 := rd1.upd0 U4
  replace h_gT := U4.get0 h_gT
  replace h_b1 := U4.get0 h_b1
  replace hF := hF.go0 U4
  clear e4
  refine store_intro (n := 4) (by kernel_rfl) (by rfl) (by first | rfl | (simp [Value.cells, Value.oneCell', Gs.cv, Gs.fv, Gs.ie]; done)) h_b4 (by first | exact Nat.le_of_ble_eq_true rfl | (simp; done) | omega) (by first | (simp; rfl) | rfl) (fun w5 N5 _ U5 => ?_)
  replace rd1 := rd1.upd1 U5 na_rd1_b4
  replace h_gT := U5.get1 h_gT ne_gT_b4
  replace h_b1 := U5.get1 h_b1 ne_b1_b4
  replace h_b4 := N5
  replace hF := hF.go1 U5 ge_b4
  refine opv_T (neI _ _ _ _ _) (by decide) ?_
  refine gdtf ?_
  refine gdtf ?_
  refine gdtf ?_
  refine gdtf ?_
  refine pickt ?_
  refine condt ?_
  exact ⟨rfl, hF⟩

/-- greenscreen/greenscreenlaw25.GrammarReads -/
theorem c_reads_big {r c i x : Int} {A : Option Addr} {n cp : Nat} {N : Nat} {cs : List Gs.Cell} {gT : Nat} {eT : TypeId} {fT : Nat × Nat} {w : World} (rd1 : Rd w A (rows Gs.cv cs)) (hn : n = cs.length) (hnm : n ≤ 9223372036854775807) (hgT : Tryz.prog.globalNamed "internal/strconv.uint64pow10" = some gT) (h_gT : w.heap[gT]? = some (.cells Gs.powT eT fT))  (hN : Gs.cellsN r c = N) (hz : 120 < N) :
    Calls Tryz.prog 3 #[.agg #[.int .i64 r, .int .i64 c], .slice A n cp, .int .i64 i, .int .u8 x] w fun e w' => e = .returned (.bool true) ∧ Upd no w w' := by
  refine F3.calls ?_
  unfold F3
  have lt_rd1 := rd1.lt
  have lt_h_gT := lt_get h_gT
  have hF : Upd no w w := Fr.refl _ _ _
  refine box_intro (by rfl) (fun b1 w1 e1 h_b1 _ U1 => ?_)
  have na_rd1_b1 := rd1.apart e1
  have ne_gT_b1 : gT ≠ b1 := by have := lt_get h_gT; omega
  have ge_b1 : w.heap.size ≤ b1 := by have := hF.size; omega
  replace rd1 := rd1.upd0 U1
  replace h_gT := U1.get0 h_gT
  replace hF := hF.go0 U1
  clear e1
  refine callF_T (c_law25_alive hgT h_gT) (rfl) (fun w2 U2 => ?_)
  replace rd1 := rd1.upd0 U2
  replace h_gT := U2.get0 h_gT
  replace h_b1 := U2.get0 h_b1
  replace hF := hF.go0 U2
  refine opv_run (notT) ?_
  refine condf ?_
  refine opv_run (ldA (n := 2) (by kernel_rfl) h_b1 (by first | exact Nat.le_of_ble_eq_true rfl | (simp; done) | omega) (by rfl)) ?_
  refine callF_ex (c_ref14_New1 (r := r) (c := c) (by omega)) (fun v3 w3 D3 => ?_)
  obtain ⟨gx, rfl, own_x, U3⟩ := D3
  rw [show (Gs.cellsN r c).toNat = N by omega] at own_x
  have nx3_rd1_own_x : _ ∨ ∀ k, _ → ¬ ownS _ k := (rd1.lt).imp_right fun h k hk hs => by have := h k hk; have := (Own.ge own_x hs).1; omega
  have nx3_h_gT_own_x : ¬ ownS _ gT := fun h => by have := (Own.ge own_x h).1; have := lt_get h_gT; omega
  have nx3_h_b1_own_x : ¬ ownS _ b1 := fun h => by have := (Own.ge own_x h).1; have := lt_get h_b1; omega
  replace own_x := own_x.mono (B' := w.heap.size) hF.size
  replace rd1 := rd1.upd0 U3
  replace h_gT := U3.get0 h_gT
  replace h_b1 := U3.get0 h_b1
  replace hF := hF.go0 U3
  rw [show (Gs.cellsN r c).toNat = N by omega]
  refine opv_run (ext_t (by rfl)) ?_
  refine opv_run (ext_t (by rfl)) ?_
  refine alloc_intro (cs := #[.int .i64 0, .int .i64 0, .slice none 0 0, .int .i64 0]) (by kernel_rfl) (fun b4 w4 e4 h_b4 _ U4 => ?_)
  have na_rd1_b4 := rd1.apart e4
  have ne_gT_b4 : gT ≠ b4 := by have := lt_get h_gT; omega
  have ne_b1_b4 : b1 ≠ b4 := by have := lt_get h_b1; omega
  have na_own_x_b4 := own_x.apart e4
  have ge_b4 : w.heap.size ≤ b4 := by have := hF.size; omega
  replace rd1 := rd1.upd0 U4
  replace own_x := own_x.upd0 U4
  replace h_gT := U4.get0 h_gT
  replace h_b1 := U4.get0 h_b1
  replace hF := hF.go0 U4
  clear e4
  refine store_intro (n := 4) (by kernel_rfl) (by rfl) (by first | rfl | (simp [Value.cells, Value.oneCell', Gs.cv, Gs.fv, Gs.ie]; done)) h_b4 (by first | exact Nat.le_of_ble_eq_true rfl | (simp; done) | omega) (by first | (simp; rfl) | rfl) (fun w5 N5 _ U5 => ?_)
  replace rd1 := rd1.upd1 U5 na_rd1_b4
  replace own_x := own_x.upd1 U5 na_own_x_b4
  replace h_gT := U5.get1 h_gT ne_gT_b4
  replace h_b1 := U5.get1 h_b1 ne_b1_b4
  replace h_b4 := N5
  replace hF := hF.go1 U5 ge_b4
  refine opv_F (neI _ _ _ _ _) (by decide) ?_
  refine gdff ?_
  refine opv_run (fieldAt_eq (off := 2) (by kernel_rfl)) ?_
  refine gdff ?_
  refine opv_run (ldC (by kernel_rfl) h_b4 (by rfl)) ?_
  refine gdff ?_
  refine opv_run (len_sl (by kernel_rfl) _ _ _) ?_
  refine gdff ?_
  refine opv_T (gtr _ _ _ _) (by omega) ?_
  refine pickf ?_
  refine condt ?_
  exact ⟨rfl, hF⟩

set_option maxHeartbeats 4000000 in
/-- greenscreen/greenscreenlaw25.GrammarReads -/
theorem c_reads_ok {r c i x : Int} {A : Option Addr} {n cp : Nat} {N : Nat} {cs : List Gs.Cell} {gT : Nat} {eT : TypeId} {fT : Nat × Nat} {w : World} (rd1 : Rd w A (rows Gs.cv cs)) (hn : n = cs.length) (hnm : n ≤ 9223372036854775807) (hgT : Tryz.prog.globalNamed "internal/strconv.uint64pow10" = some gT) (h_gT : w.heap[gT]? = some (.cells Gs.powT eT fT))  (hcw : Gs.Cws cs) (hx : 0 ≤ x ∧ x ≤ 255) (hN : Gs.cellsN r c = N) (hz : N ≠ 0) (hz2 : N ≤ 120) :
    Calls Tryz.prog 3 #[.agg #[.int .i64 r, .int .i64 c], .slice A n cp, .int .i64 i, .int .u8 x] w fun e w' => e = .returned (.bool true) ∧ Upd no w w' := by
  refine F3.calls ?_
  unfold F3
  subst hn
  have lt_rd1 := rd1.lt
  have lt_h_gT := lt_get h_gT
  have hF : Upd no w w := Fr.refl _ _ _
  refine box_intro (by rfl) (fun b1 w1 e1 h_b1 _ U1 => ?_)
  have na_rd1_b1 := rd1.apart e1
  have ne_gT_b1 : gT ≠ b1 := by have := lt_get h_gT; omega
  have ge_b1 : w.heap.size ≤ b1 := by have := hF.size; omega
  replace rd1 := rd1.upd0 U1
  replace h_gT := U1.get0 h_gT
  replace hF := hF.go0 U1
  clear e1
  refine callF_T (c_law25_alive hgT h_gT) (rfl) (fun w2 U2 => ?_)
  replace rd1 := rd1.upd0 U2
  replace h_gT := U2.get0 h_gT
  replace h_b1 := U2.get0 h_b1
  replace hF := hF.go0 U2
  refine opv_run (notT) ?_
  refine condf ?_
  refine opv_run (ldA (n := 2) (by kernel_rfl) h_b1 (by first | exact Nat.le_of_ble_eq_true rfl | (simp; done) | omega) (by rfl)) ?_
  refine callF_ex (c_ref14_New1 (r := r) (c := c) (by omega)) (fun v3 w3 D3 => ?_)
  obtain ⟨gx, rfl, own_x, U3⟩ := D3
  rw [show (Gs.cellsN r c).toNat = N by omega] at own_x
  have nx3_rd1_own_x : _ ∨ ∀ k, _ → ¬ ownS _ k := (rd1.lt).imp_right fun h k hk hs => by have := h k hk; have := (Own.ge own_x hs).1; omega
  have nx3_h_gT_own_x : ¬ ownS _ gT := fun h => by have := (Own.ge own_x h).1; have := lt_get h_gT; omega
  have nx3_h_b1_own_x : ¬ ownS _ b1 := fun h => by have := (Own.ge own_x h).1; have := lt_get h_b1; omega
  replace own_x := own_x.mono (B' := w.heap.size) hF.size
  replace rd1 := rd1.upd0 U3
  replace h_gT := U3.get0 h_gT
  replace h_b1 := U3.get0 h_b1
  replace hF := hF.go0 U3
  rw [show (Gs.cellsN r c).toNat = N by omega]
  refine opv_run (ext_t (by rfl)) ?_
  refine opv_run (ext_t (by rfl)) ?_
  refine alloc_intro (cs := #[.int .i64 0, .int .i64 0, .slice none 0 0, .int .i64 0]) (by kernel_rfl) (fun b4 w4 e4 h_b4 _ U4 => ?_)
  have na_rd1_b4 := rd1.apart e4
  have ne_gT_b4 : gT ≠ b4 := by have := lt_get h_gT; omega
  have ne_b1_b4 : b1 ≠ b4 := by have := lt_get h_b1; omega
  have na_own_x_b4 := own_x.apart e4
  have ge_b4 : w.heap.size ≤ b4 := by have := hF.size; omega
  replace rd1 := rd1.upd0 U4
  replace own_x := own_x.upd0 U4
  replace h_gT := U4.get0 h_gT
  replace h_b1 := U4.get0 h_b1
  replace hF := hF.go0 U4
  clear e4
  refine store_intro (n := 4) (by kernel_rfl) (by rfl) (by first | rfl | (simp [Value.cells, Value.oneCell', Gs.cv, Gs.fv, Gs.ie]; done)) h_b4 (by first | exact Nat.le_of_ble_eq_true rfl | (simp; done) | omega) (by first | (simp; rfl) | rfl) (fun w5 N5 _ U5 => ?_)
  replace rd1 := rd1.upd1 U5 na_rd1_b4
  replace own_x := own_x.upd1 U5 na_own_x_b4
  replace h_gT := U5.get1 h_gT ne_gT_b4
  replace h_b1 := U5.get1 h_b1 ne_b1_b4
  replace h_b4 := N5
  replace hF := hF.go1 U5 ge_b4
  refine opv_F (neI _ _ _ _ _) (by decide) ?_
  refine gdff ?_
  refine opv_run (fieldAt_eq (off := 2) (by kernel_rfl)) ?_
  refine gdff ?_
  refine opv_run (ldC (by kernel_rfl) h_b4 (by rfl)) ?_
  refine gdff ?_
  refine opv_run (len_sl (by kernel_rfl) _ _ _) ?_
  refine gdff ?_
  refine opv_F (gtr _ _ _ _) (by omega) ?_
  refine pickf ?_
  refine condf ?_
  refine opv_run (ldA (n := 2) (by kernel_rfl) h_b1 (by first | exact Nat.le_of_ble_eq_true rfl | (simp; done) | omega) (by rfl)) ?_
  refine callF_ex (c_plane_New1 (r := r) (c := c) (by omega)) (fun v6 w6 D6 => ?_)
  obtain ⟨bp, gp, rfl, gbp, h_bp, own_p, U6⟩ := D6
  rw [show (Gs.cellsN r c).toNat = N by omega] at h_bp own_p
  have na_rd1_bp := (rd1.lt).ne (b := bp) (by omega)
  have ne_gT_bp : gT ≠ bp := by have := lt_get h_gT; omega
  have ne_b1_bp : b1 ≠ bp := by have := lt_get h_b1; omega
  have na_own_x_bp : ∀ k, ownS _ k → k ≠ bp := fun k hk => by have := (Own.ge own_x hk).2; omega
  have ne_b4_bp : b4 ≠ bp := by have := lt_get h_b4; omega
  have ge_bp : w.heap.size ≤ bp := by have := hF.size; omega
  have nx6_rd1_own_p : _ ∨ ∀ k, _ → ¬ ownS _ k := (rd1.lt).imp_right fun h k hk hs => by have := h k hk; have := (Own.ge own_p hs).1; omega
  have nx6_h_gT_own_p : ¬ ownS _ gT := fun h => by have := (Own.ge own_p h).1; have := lt_get h_gT; omega
  have nx6_h_b1_own_p : ¬ ownS _ b1 := fun h => by have := (Own.ge own_p h).1; have := lt_get h_b1; omega
  have nx6_own_x_own_p : ∀ k, ownS _ k → ¬ ownS _ k := fun k hk hs => by have := (Own.ge own_x hk).2; have := (Own.ge own_p hs).1; omega
  have nx6_h_b4_own_p : ¬ ownS _ b4 := fun h => by have := (Own.ge own_p h).1; have := lt_get h_b4; omega
  replace own_p := own_p.mono (B' := w.heap.size) hF.size
  replace rd1 := rd1.upd0 U6
  replace own_x := own_x.upd0 U6
  replace h_gT := U6.get0 h_gT
  replace h_b1 := U6.get0 h_b1
  replace h_b4 := U6.get0 h_b4
  replace hF := hF.go0 U6
  refine opv_run (ext_t (by rfl)) ?_
  refine opv_run (ext_t (by rfl)) ?_
  refine join_cut (fun g w' => (Own w.heap.size w' 35 5 (.slice (some ⟨gp, 0, none⟩) N N) (rows Gs.cv (Gs.madeK N cs cs.length))) ∧ (Own w.heap.size w' 35 5 (.slice (some ⟨gx, 0, none⟩) N N) (rows Gs.cv (Gs.madeK N cs cs.length))) ∧ (w'.heap[bp]? = some (.cells #[.int .i64 r, .int .i64 c, .slice (some ⟨gp, 0, none⟩) N N, .int .i64 0] 57 (0, 0))) ∧ (w'.heap[b4]? = some (.cells #[.int .i64 r, .int .i64 c, .slice (some ⟨gx, 0, none⟩) N N, .int .i64 0] 27 (0, 0))) ∧ (Rd w' A (rows Gs.cv cs)) ∧ (Upd no w w')) (fun J1 hJ1 => ?_) (fun gJ1 wJ1 hI => ?_)
  · refine opv_run (len_sl (by kernel_rfl) _ _ _) ?_
    refine loop_intro (fun g w' => ∃ (k : Nat), (g 45 = .int .i64 (k : Int)) ∧ (k ≤ cs.length) ∧ (Own w.heap.size w' 35 5 (.slice (some ⟨gp, 0, none⟩) N N) (rows Gs.cv (Gs.madeK N cs k))) ∧ (Own w.heap.size w' 35 5 (.slice (some ⟨gx, 0, none⟩) N N) (rows Gs.cv (Gs.madeK N cs k))) ∧ (w'.heap[bp]? = some (.cells #[.int .i64 r, .int .i64 c, .slice (some ⟨gp, 0, none⟩) N N, .int .i64 0] 57 (0, 0))) ∧ (w'.heap[b4]? = some (.cells #[.int .i64 r, .int .i64 c, .slice (some ⟨gx, 0, none⟩) N N, .int .i64 0] 27 (0, 0))) ∧ (Rd w' A (rows Gs.cv cs)) ∧ (Upd no w w')) (fun g w' => cs.length - (RowKit.intOf (g 45)).toNat) ?_ (fun g2 wl2 hI => ?_)
    · exact ⟨0, (by first | exact g45 | rfl), Nat.zero_le _, (by rw [Gs.made_0]; exact own_p), (by rw [Gs.made_0]; exact own_x), h_bp, h_b4, rd1, hF⟩
    · obtain ⟨k, g45, hk, own_p, own_x, h_bp, h_b4, rd1, hF⟩ := hI
      try rw [g45]
      have hml := Gs.made_len N cs k
      refine opv_dec (lss _ _ _ _) (fun h7 => ?_) (fun h7 => ?_)
      · refine condt ?_
        refine join_cut (fun g w' => (Own w.heap.size w' 35 5 (.slice (some ⟨gp, 0, none⟩) N N) (rows Gs.cv (Gs.madeK N cs (k + 1)))) ∧ (Own w.heap.size w' 35 5 (.slice (some ⟨gx, 0, none⟩) N N) (rows Gs.cv (Gs.madeK N cs (k + 1)))) ∧ (w'.heap[bp]? = some (.cells #[.int .i64 r, .int .i64 c, .slice (some ⟨gp, 0, none⟩) N N, .int .i64 0] 57 (0, 0))) ∧ (w'.heap[b4]? = some (.cells #[.int .i64 r, .int .i64 c, .slice (some ⟨gx, 0, none⟩) N N, .int .i64 0] 27 (0, 0))) ∧ (Rd w' A (rows Gs.cv cs)) ∧ (Upd no w w')) (fun J3 hJ3 => ?_) (fun gJ3 wJ3 hI => ?_)
        · refine idx_rows Gs.encC (by kernel_rfl) (by kernel_rfl) rd1 (by first | rfl | assumption | omega) (by omega) (by omega) (fun x8 hx8 => ?_)
          try simp only [Int.toNat_natCast] at hx8
          refine alloc_intro (cs := (Gs.cv Gs.zc).toArray) (by kernel_rfl) (fun b9 w9 e9 h_b9 _ U9 => ?_)
          have na_own_p_b9 := own_p.apart e9
          have na_own_x_b9 := own_x.apart e9
          have ne_bp_b9 : bp ≠ b9 := by have := lt_get h_bp; omega
          have ne_b4_b9 : b4 ≠ b9 := by have := lt_get h_b4; omega
          have na_rd1_b9 := rd1.apart e9
          have ge_b9 : w.heap.size ≤ b9 := by have := hF.size; omega
          replace own_p := own_p.upd0 U9
          replace own_x := own_x.upd0 U9
          replace rd1 := rd1.upd0 U9
          replace h_bp := U9.get0 h_bp
          replace h_b4 := U9.get0 h_b4
          replace hF := hF.go0 U9
          clear e9
          refine store_intro (n := 5) (cs' := (Gs.cv x8).toArray) (by kernel_rfl) (by rfl) (by first | rfl | (simp [Value.cells, Value.oneCell', Gs.cv, Gs.fv, Gs.ie]; done)) h_b9 (by first | exact Nat.le_of_ble_eq_true rfl | (simp; done) | omega) (by rfl) (fun w10 N10 _ U10 => ?_)
          replace own_p := own_p.upd1 U10 na_own_p_b9
          replace own_x := own_x.upd1 U10 na_own_x_b9
          replace rd1 := rd1.upd1 U10 na_rd1_b9
          replace h_bp := U10.get1 h_bp ne_bp_b9
          replace h_b4 := U10.get1 h_b4 ne_b4_b9
          replace h_b9 := N10
          replace hF := hF.go1 U10 ge_b9
          refine opv_run (fieldAt_eq (off := 2) (by kernel_rfl)) ?_
          refine opv_run (ldC (by kernel_rfl) h_b4 (by rfl)) ?_
          refine opv_run (len_sl (by kernel_rfl) _ _ _) ?_
          refine opv_dec (lss _ _ _ _) (fun h11 => ?_) (fun h11 => ?_)
          · refine condt ?_
            refine opv_run (ldA (n := 5) (cs' := (Gs.cv x8).toArray) (by kernel_rfl) h_b9 (by first | exact Nat.le_of_ble_eq_true rfl | (simp; done) | omega) (by rfl)) ?_
            refine callF_ex (c_Plane_Set h_bp own_p (Gs.made_len N cs k).symm (i := (k : Int)) (x := x8)) (fun v12 w12 D12 => ?_)
            obtain ⟨rfl, N12, U12⟩ := D12
            have own_p_o := own_p
            replace own_p := N12
            replace own_x := own_x.updS U12 nx6_own_x_own_p
            replace h_bp := U12.get h_bp (fun h => by first | (have := Own.ge own_p_o h; omega) | exact Own.ne_blk own_p_o h_bp (by decide) _ h rfl | exact Own.not_loop own_p_o h_bp (by assumption) _ h rfl | exact Own.not_def own_p_o h_bp _ h rfl | simp_all)
            replace h_b4 := U12.get h_b4 nx6_h_b4_own_p
            replace rd1 := rd1.updS U12 nx6_rd1_own_p
            replace h_b9 := U12.get h_b9 (fun h => na_own_p_b9 _ h rfl)
            replace hF := hF.go U12 (fun i h hs => by first | exact hs | exact .inl hs | exact .inr hs | (have := (Own.ge own_p_o hs).1; omega))
            clear own_p_o
            refine opv_run (fieldAt_eq (off := 2) (by kernel_rfl)) ?_
            refine opv_run (ldC (by kernel_rfl) h_b4 (by rfl)) ?_
            refine opv_run (ldA (n := 5) (cs' := (Gs.cv x8).toArray) (by kernel_rfl) h_b9 (by first | exact Nat.le_of_ble_eq_true rfl | (simp; done) | omega) (by rfl)) ?_
            obtain ⟨g13, hg13, _⟩ := own_x.at (by rw [rows_len Gs.encC]; omega)
            first | subst hg13 | cases hg13
            refine opv_run (index_slice (n := 5) (by kernel_rfl) (by omega) (by omega)) ?_
            refine store_row (i := (k : Int)) Gs.encC (by kernel_rfl) own_x (by omega) (by omega) rfl (fun w14 N14 _ U14 => ?_)
            have own_x_o := own_x
            replace own_p := own_p.updS U14 (fun k hk hs => nx6_own_x_own_p k hs hk)
            replace own_x := N14
            replace h_bp := U14.get h_bp (fun h => na_own_x_bp _ h rfl)
            replace h_b4 := U14.get h_b4 (fun h => na_own_x_b4 _ h rfl)
            replace rd1 := rd1.updS U14 nx3_rd1_own_x
            replace h_b9 := U14.get h_b9 (fun h => na_own_x_b9 _ h rfl)
            replace hF := hF.go U14 (fun i h hs => by first | exact hs | exact .inl hs | exact .inr hs | (have := (Own.ge own_x_o hs).1; omega))
            clear own_x_o
            refine hJ3 _ _ ?_
            exact ⟨(by first | (rw [← Gs.made_in hx8 (by omega)]; rw [Gs.setC_in _ (by omega) (by rw [Gs.made_len]; omega)] at own_p; exact own_p) | (rw [Gs.made_out (by omega) (by omega)]; exact own_p)), (by first | (rw [← Gs.made_in hx8 (by omega)]; exact own_x) | (rw [Gs.made_out (by omega) (by omega)]; exact own_x)), h_bp, h_b4, rd1, hF⟩
          · refine condf ?_
            refine hJ3 _ _ ?_
            exact ⟨(by first | (rw [← Gs.made_in hx8 (by omega)]; rw [Gs.setC_in _ (by omega) (by rw [Gs.made_len]; omega)] at own_p; exact own_p) | (rw [Gs.made_out (by omega) (by omega)]; exact own_p)), (by first | (rw [← Gs.made_in hx8 (by omega)]; exact own_x) | (rw [Gs.made_out (by omega) (by omega)]; exact own_x)), h_bp, h_b4, rd1, hF⟩
        · obtain ⟨own_p, own_x, h_bp, h_b4, rd1, hF⟩ := hI
          first | refine opv_run (add_i64 _ (by omega)) ?_ | refine opv_run (addI _ _ _ _) ?_
          exact ⟨⟨k + 1, (by first | exact g45 | rfl), by omega, own_p, own_x, h_bp, h_b4, rd1, hF⟩, cnt_lt (by first | rfl | exact g45) rfl (by omega)⟩
      · refine condf ?_
        refine hJ1 _ _ ?_
        exact ⟨(by rw [show cs.length = k by omega]; exact own_p), (by rw [show cs.length = k by omega]; exact own_x), h_bp, h_b4, rd1, hF⟩
  · obtain ⟨own_p, own_x, h_bp, h_b4, rd1, hF⟩ := hI
    obtain ⟨ps, hps⟩ : ∃ ps, ps = Gs.madeK N cs cs.length := ⟨_, rfl⟩
    rw [← hps] at own_p own_x
    have hpl : N = ps.length := by rw [hps, Gs.made_len]
    have hpw : Gs.Cws ps := by rw [hps]; exact Gs.made_w hcw _
    clear hps
    have hb4 : N ≤ 4096 := by omega
    refine opv_run (and_255 _ _) ?_
    refine opv_run (fieldAt_eq (off := 2) (by kernel_rfl)) ?_
    refine opv_run (ldC (by kernel_rfl) h_b4 (by rfl)) ?_
    refine opv_run (len_sl (by kernel_rfl) _ _ _) ?_
    refine opv_run (remN _ (by omega) (by omega) (by omega)) ?_
    obtain ⟨cu, hcu⟩ : ∃ q, q = i % 256 % (N : Int) := ⟨_, rfl⟩
    rw [← hcu]
    have hcb : 0 ≤ cu ∧ cu < N := by rw [hcu]; exact Gs.mod_bd _ (by omega)
    clear hcu
    have hcp : 0 ≤ cu ∧ cu < (ps.length : Nat) := by omega
    have hp4 : ps.length ≤ 4096 := by omega
    have hib := Gs.readB_inb (x := x) hp4 hcp
    have hbb := Gs.buf_back (aid := x) hpw hp4 hcp
    have hrl := Gs.readB_len (cs := ps) (cur := cu) (x := x) (by omega)
    have hbl := Gs.bufB_len (cs := ps) (cur := cu) (x := x) (by omega)
    refine opv_run (fieldAt_eq (off := 3) (by kernel_rfl)) ?_
    refine store1_intro (by kernel_rfl) rfl rfl h_b4 (by first | exact Nat.le_of_ble_eq_true rfl | (simp; done) | omega | (simp [vals_length, *]; done) | (simp [vals_length, *]; omega)) (by first | (simp [vals_set]; rfl) | rfl) (fun w15 N15 _ U15 => ?_)
    replace own_p := own_p.upd1 U15 (by first | assumption | exact Own.ne_blk own_p (by assumption) (by decide) | exact Own.not_loop own_p (by assumption) (by assumption) | exact Own.not_def own_p (by assumption) | exact Own.not_loop own_p (by assumption) (lp3 _))
    replace own_x := own_x.upd1 U15 na_own_x_b4
    replace rd1 := rd1.upd1 U15 na_rd1_b4
    replace h_bp := U15.get1 h_bp (Ne.symm ne_b4_bp)
    replace h_b4 := N15
    replace hF := hF.go1 U15 ge_b4
    refine opv_run (fieldAt_eq (off := 3) (by kernel_rfl)) ?_
    refine opv_run (ldC (by kernel_rfl) h_b4 (by rfl)) ?_
    refine callF_ex (c_Plane_Point h_bp own_p hpl (i := cu)) (fun v16 w16 D16 => ?_)
    obtain ⟨rfl, N16, U16⟩ := D16
    replace own_p := own_p.upd1 U16 (by first | assumption | exact Own.ne_blk own_p (by assumption) (by decide) | exact Own.not_loop own_p (by assumption) (by assumption) | exact Own.not_def own_p (by assumption) | exact Own.not_loop own_p (by assumption) (lp3 _))
    replace own_x := own_x.upd1 U16 na_own_x_bp
    replace rd1 := rd1.upd1 U16 na_rd1_bp
    replace h_b4 := U16.get1 h_b4 ne_b4_bp
    replace h_bp := N16
    replace hF := hF.go1 U16 ge_bp
    rw [if_pos hcp] at h_bp
    refine callF_ex (c_rp_Read h_bp own_p hpl (x := x) (by omega) hN hb4 hpw) (fun v17 w17 D17 => ?_)
    obtain ⟨own79, U17⟩ := D17
    obtain ⟨A79, c79, rfl, _⟩ := own79.rd1
    have nx17_own_p_own79 : ∀ k, ownS _ k → ¬ ownS _ k := fun k hk hs => by have := (Own.ge own_p hk).2; have := (Own.ge own79 hs).1; omega
    have nx17_own_x_own79 : ∀ k, ownS _ k → ¬ ownS _ k := fun k hk hs => by have := (Own.ge own_x hk).2; have := (Own.ge own79 hs).1; omega
    have nx17_h_bp_own79 : ¬ ownS _ bp := fun h => by have := (Own.ge own79 h).1; have := lt_get h_bp; omega
    have nx17_h_b4_own79 : ¬ ownS _ b4 := fun h => by have := (Own.ge own79 h).1; have := lt_get h_b4; omega
    have nx17_rd1_own79 : _ ∨ ∀ k, _ → ¬ ownS _ k := (rd1.lt).imp_right fun h k hk hs => by have := h k hk; have := (Own.ge own79 hs).1; omega
    replace own79 := own79.mono (B' := w.heap.size) hF.size
    replace own_p := own_p.upd0 U17
    replace own_x := own_x.upd0 U17
    replace rd1 := rd1.upd0 U17
    replace h_bp := U17.get0 h_bp
    replace h_b4 := U17.get0 h_b4
    replace hF := hF.go0 U17
    refine callF_ex (c_gr_Parse (bs := (Gs.readB ps cu x)) own79.rdS rfl own79.le_cap (Gs.readB_bs hpw hx) (by omega)) (fun v18 w18 D18 => ?_)
    obtain ⟨q80, l80, A80, c80, hq80, hi80, rfl, rd80, rdc80, hw80, gA80, gC80, ha80, U18⟩ := D18
    replace hq80 : q80 = Gs.readQ ps cu x := by rw [hq80]; unfold Gs.inbV; rw [hib]
    rw [show Gs.errV (Gs.inbF (Gs.readB ps cu x)) = 0 by rw [hib]; rfl]
    have hqa : q80.aid = x := by rw [hq80]; exact Gs.readQ_aid _ _ _
    have hqs : q80.alone = decide (x = 109 ∨ x = 108 ∨ x = 110 ∨ x = 107) := by rw [hq80]; exact Gs.readQ_al _ _ _
    have na_rd80_own_p : _ ∨ ∀ k, _ → ¬ ownS _ k := gA80.imp_right fun h k hk hs => by have := h k hk; have := (Own.ge own_p hs).2; omega
    have na_rd80_own_x : _ ∨ ∀ k, _ → ¬ ownS _ k := gA80.imp_right fun h k hk hs => by have := h k hk; have := (Own.ge own_x hs).2; omega
    have na_rd80_bp := gA80.ne (lt_get h_bp)
    have na_rd80_b4 := gA80.ne (lt_get h_b4)
    have na_rd80_own79 : _ ∨ ∀ k, _ → ¬ ownS _ k := gA80.imp_right fun h k hk hs => by have := h k hk; have := (Own.ge own79 hs).2; omega
    have na_rdc80_own_p : _ ∨ ∀ k, _ → ¬ ownS _ k := gC80.imp_right fun h k hk hs => by have := h k hk; have := (Own.ge own_p hs).2; omega
    have na_rdc80_own_x : _ ∨ ∀ k, _ → ¬ ownS _ k := gC80.imp_right fun h k hk hs => by have := h k hk; have := (Own.ge own_x hs).2; omega
    have na_rdc80_bp := gC80.ne (lt_get h_bp)
    have na_rdc80_b4 := gC80.ne (lt_get h_b4)
    have na_rdc80_own79 : _ ∨ ∀ k, _ → ¬ ownS _ k := gC80.imp_right fun h k hk hs => by have := h k hk; have := (Own.ge own79 hs).2; omega
    replace own_p := own_p.upd0 U18
    replace own_x := own_x.upd0 U18
    replace rd1 := rd1.upd0 U18
    replace own79 := own79.upd0 U18
    replace h_bp := U18.get0 h_bp
    replace h_b4 := U18.get0 h_b4
    replace hF := hF.go0 U18
    refine opv_run (ext_t (by rfl)) ?_
    refine opv_run (ext_t (by rfl)) ?_
    refine alloc_intro (cs := #[.int .u8 0, .bool false, .int .i64 0, .slice none 0 0]) (by kernel_rfl) (fun b19 w19 e19 h_b19 _ U19 => ?_)
    have na_own_p_b19 := own_p.apart e19
    have na_own_x_b19 := own_x.apart e19
    have ne_bp_b19 : bp ≠ b19 := by have := lt_get h_bp; omega
    have ne_b4_b19 : b4 ≠ b19 := by have := lt_get h_b4; omega
    have na_rd1_b19 := rd1.apart e19
    have na_own79_b19 := own79.apart e19
    have na_rd80_b19 := rd80.apart e19
    have na_rdc80_b19 := rdc80.apart e19
    have ge_b19 : w.heap.size ≤ b19 := by have := hF.size; omega
    replace own_p := own_p.upd0 U19
    replace own_x := own_x.upd0 U19
    replace rd1 := rd1.upd0 U19
    replace own79 := own79.upd0 U19
    replace rd80 := rd80.upd0 U19
    replace rdc80 := rdc80.upd0 U19
    replace h_bp := U19.get0 h_bp
    replace h_b4 := U19.get0 h_b4
    replace hF := hF.go0 U19
    clear e19
    refine store_intro (n := 4) (cs' := #[.int .u8 q80.aid, .bool q80.alone, .int .i64 q80.cur, .slice A80 l80.length c80]) (by kernel_rfl) (by rfl) (by first | rfl | (simp [Value.cells, Value.oneCell', Gs.cv, Gs.fv, Gs.ie]; done)) h_b19 (by first | exact Nat.le_of_ble_eq_true rfl | (simp; done) | omega) (by rfl) (fun w20 N20 _ U20 => ?_)
    replace own_p := own_p.upd1 U20 na_own_p_b19
    replace own_x := own_x.upd1 U20 na_own_x_b19
    replace rd1 := rd1.upd1 U20 na_rd1_b19
    replace own79 := own79.upd1 U20 na_own79_b19
    replace rd80 := rd80.upd1 U20 na_rd80_b19
    replace rdc80 := rdc80.upd1 U20 na_rdc80_b19
    replace h_bp := U20.get1 h_bp ne_bp_b19
    replace h_b4 := U20.get1 h_b4 ne_b4_b19
    replace h_b19 := N20
    replace hF := hF.go1 U20 ge_b19
    refine drawn_S (S := no) (fun w21 U21 => ?_)
    replace own_p := own_p.upd0 U21
    replace own_x := own_x.upd0 U21
    replace rd1 := rd1.upd0 U21
    replace own79 := own79.upd0 U21
    replace rd80 := rd80.upd0 U21
    replace rdc80 := rdc80.upd0 U21
    replace h_bp := U21.get0 h_bp
    replace h_b4 := U21.get0 h_b4
    replace h_b19 := U21.get0 h_b19
    replace hF := hF.go0 U21
    refine qop_F (fun w' hw' => (neI _ _ _ _ _)) (fun hne => hne rfl) ?_
    refine qgdff ?_
    refine qop_run (fun w' hw' => (fieldAt_eq (off := 0) (by kernel_rfl))) ?_
    refine qgdff ?_
    refine qop_run (fun w' hw' => by have h_b19 := hw'.get0 h_b19; exact (ldC (by kernel_rfl) h_b19 (by rfl))) ?_
    refine qgdff ?_
    refine qmove ?_
    refine qgdff ?_
    refine qop_F (fun w' hw' => (neI _ _ _ _ _)) (fun hne => hne hqa) ?_
    refine qpickf ?_
    refine qgdff ?_
    refine qop_run (fun w' hw' => (fieldAt_eq (off := 1) (by kernel_rfl))) ?_
    refine qgdff ?_
    refine qop_run (fun w' hw' => by have h_b19 := hw'.get0 h_b19; exact (ldC (by kernel_rfl) h_b19 (by rfl))) ?_
    refine qgdff ?_
    refine qmove ?_
    refine qgdff ?_
    refine qop_call (fun w' hw' => c_ref23_Short) ?_
    refine qgdff ?_
    refine qop_F (fun w' hw' => (neB _ _ (by kernel_rfl) _ _)) (fun hne => hne hqs) ?_
    refine qpickf ?_
    refine ext_intro (fun w23 U23 => ?_)
    replace own_p := own_p.upd0 U23
    replace own_x := own_x.upd0 U23
    replace rd1 := rd1.upd0 U23
    replace own79 := own79.upd0 U23
    replace rd80 := rd80.upd0 U23
    replace rdc80 := rdc80.upd0 U23
    replace h_bp := U23.get0 h_bp
    replace h_b4 := U23.get0 h_b4
    replace h_b19 := U23.get0 h_b19
    replace hF := hF.go0 U23
    refine condf ?_
    refine opv_run (fieldAt_eq (off := 1) (by kernel_rfl)) ?_
    refine opv_b (ldC (by kernel_rfl) h_b19 (by rfl)) (fun h24 => ?_) (fun h24 => ?_)
    · refine opv_run (notT) ?_
      refine gdft ?_
      refine gdft ?_
      refine gdft ?_
      refine gdft ?_
      refine gdft ?_
      refine gdft ?_
      refine gdun ?_
      refine gdun ?_
      refine gdun ?_
      refine gdun ?_
      refine gdft ?_
      refine pickf ?_
      refine condf ?_
      refine callF_ex (c_rp_Buffer h_bp own_p hpl (x := x) hb4 hpw) (fun v25 w25 D25 => ?_)
      obtain ⟨own117, U25⟩ := D25
      obtain ⟨A117, c117, rfl, _⟩ := own117.rd1
      have nx25_own_p_own117 : ∀ k, ownS _ k → ¬ ownS _ k := fun k hk hs => by have := (Own.ge own_p hk).2; have := (Own.ge own117 hs).1; omega
      have nx25_own_x_own117 : ∀ k, ownS _ k → ¬ ownS _ k := fun k hk hs => by have := (Own.ge own_x hk).2; have := (Own.ge own117 hs).1; omega
      have nx25_h_bp_own117 : ¬ ownS _ bp := fun h => by have := (Own.ge own117 h).1; have := lt_get h_bp; omega
      have nx25_h_b4_own117 : ¬ ownS _ b4 := fun h => by have := (Own.ge own117 h).1; have := lt_get h_b4; omega
      have nx25_rd1_own117 : _ ∨ ∀ k, _ → ¬ ownS _ k := (rd1.lt).imp_right fun h k hk hs => by have := h k hk; have := (Own.ge own117 hs).1; omega
      have nx25_own79_own117 : ∀ k, ownS _ k → ¬ ownS _ k := fun k hk hs => by have := (Own.ge own79 hk).2; have := (Own.ge own117 hs).1; omega
      have nx25_rd80_own117 : _ ∨ ∀ k, _ → ¬ ownS _ k := (rd80.lt).imp_right fun h k hk hs => by have := h k hk; have := (Own.ge own117 hs).1; omega
      have nx25_rdc80_own117 : _ ∨ ∀ k, _ → ¬ ownS _ k := (rdc80.lt).imp_right fun h k hk hs => by have := h k hk; have := (Own.ge own117 hs).1; omega
      have nx25_h_b19_own117 : ¬ ownS _ b19 := fun h => by have := (Own.ge own117 h).1; have := lt_get h_b19; omega
      replace own117 := own117.mono (B' := w.heap.size) hF.size
      replace own_p := own_p.upd0 U25
      replace own_x := own_x.upd0 U25
      replace rd1 := rd1.upd0 U25
      replace own79 := own79.upd0 U25
      replace rd80 := rd80.upd0 U25
      replace rdc80 := rdc80.upd0 U25
      replace h_bp := U25.get0 h_bp
      replace h_b4 := U25.get0 h_b4
      replace h_b19 := U25.get0 h_b19
      replace hF := hF.go0 U25
      refine callF_ex (c_gr_Buffer (bs := (Gs.bufB ps cu x)) own117.rdS rfl own117.le_cap (Gs.bufB_bs hpw hx) (by omega)) (fun v26 w26 D26 => ?_)
      obtain ⟨a118, k118, xs118, A118, c118, hq118, rfl, rd118, hw118, gA118, U26⟩ := D26
      rw [show Gs.bufV (Gs.bufB ps cu x) = (x, cu, ps.map Gs.standM) from by unfold Gs.bufV; rw [hbb]] at hq118
      cases hq118
      rw [show Gs.errV (Gs.bufF (Gs.bufB ps cu x)) = 0 from by rw [hbb]; rfl]
      have na_rd118_own_p : _ ∨ ∀ k, _ → ¬ ownS _ k := gA118.imp_right fun h k hk hs => by have := h k hk; have := (Own.ge own_p hs).2; omega
      have na_rd118_own_x : _ ∨ ∀ k, _ → ¬ ownS _ k := gA118.imp_right fun h k hk hs => by have := h k hk; have := (Own.ge own_x hs).2; omega
      have na_rd118_bp := gA118.ne (lt_get h_bp)
      have na_rd118_b4 := gA118.ne (lt_get h_b4)
      have na_rd118_own79 : _ ∨ ∀ k, _ → ¬ ownS _ k := gA118.imp_right fun h k hk hs => by have := h k hk; have := (Own.ge own79 hs).2; omega
      have na_rd118_b19 := gA118.ne (lt_get h_b19)
      have na_rd118_own117 : _ ∨ ∀ k, _ → ¬ ownS _ k := gA118.imp_right fun h k hk hs => by have := h k hk; have := (Own.ge own117 hs).2; omega
      replace own_p := own_p.upd0 U26
      replace own_x := own_x.upd0 U26
      replace rd1 := rd1.upd0 U26
      replace own79 := own79.upd0 U26
      replace rd80 := rd80.upd0 U26
      replace rdc80 := rdc80.upd0 U26
      replace own117 := own117.upd0 U26
      replace h_bp := U26.get0 h_bp
      replace h_b4 := U26.get0 h_b4
      replace h_b19 := U26.get0 h_b19
      replace hF := hF.go0 U26
      refine opv_run (ext_t (by rfl)) ?_
      refine opv_run (ext_t (by rfl)) ?_
      refine opv_run (ext_t (by rfl)) ?_
      refine opv_run (ext_t (by rfl)) ?_
      refine opv_F (neI _ _ _ _ _) (fun hne => hne rfl) ?_
      refine gdff ?_
      refine gdff ?_
      refine opv_run (fieldAt_eq (off := 3) (by kernel_rfl)) ?_
      refine gdff ?_
      refine opv_run (ldC (by kernel_rfl) h_b4 (by rfl)) ?_
      refine gdff ?_
      refine opv_F (neI _ _ _ _ _) (fun hne => hne rfl) ?_
      refine pickf ?_
      refine gdff ?_
      refine gdff ?_
      refine opv_F (neI _ _ _ _ _) (fun hne => hne rfl) ?_
      refine pickf ?_
      refine gdff ?_
      refine gdff ?_
      refine opv_run (len_sl (by kernel_rfl) _ _ _) ?_
      refine gdff ?_
      refine opv_run (fieldAt_eq (off := 2) (by kernel_rfl)) ?_
      refine gdff ?_
      refine opv_run (ldC (by kernel_rfl) h_b4 (by rfl)) ?_
      refine gdff ?_
      refine opv_run (len_sl (by kernel_rfl) _ _ _) ?_
      refine gdff ?_
      refine opv_F (neI _ _ _ _ _) (fun hne => hne (by rw [List.length_map, hpl])) ?_
      refine pickf ?_
      refine condf ?_
      refine join_cut (fun g w' => (Upd no w w')) (fun J4 hJ4 => ?_) (fun gJ4 wJ4 hI => ?_)
      · refine opv_run (len_sl (by kernel_rfl) _ _ _) ?_
        refine loop_intro (fun g w' => ∃ (k : Nat), (g 146 = .int .i64 (k : Int)) ∧ (k ≤ (ps.map Gs.standM).length) ∧ (Rd w' A118 (rows Gs.cv (ps.map Gs.standM))) ∧ (Own w.heap.size w' 35 5 (.slice (some ⟨gx, 0, none⟩) N N) (rows Gs.cv ps)) ∧ (w'.heap[b4]? = some (.cells #[.int .i64 r, .int .i64 c, .slice (some ⟨gx, 0, none⟩) N N, .int .i64 cu] 27 (0, 0))) ∧ (Upd no w w')) (fun g w' => (ps.map Gs.standM).length - (RowKit.intOf (g 146)).toNat) ?_ (fun g5 wl5 hI => ?_)
        · exact ⟨0, (by first | exact g146 | rfl), Nat.zero_le _, rd118, own_x, h_b4, hF⟩
        · obtain ⟨k, g146, hk, rd118, own_x, h_b4, hF⟩ := hI
          try rw [g146]
          have hml : (ps.map Gs.standM).length = ps.length := List.length_map ..
          refine opv_dec (lss _ _ _ _) (fun h27 => ?_) (fun h27 => ?_)
          · refine condt ?_
            refine idx_rows Gs.encC (by kernel_rfl) (by kernel_rfl) rd118 (by first | rfl | assumption | omega) (by omega) (by omega) (fun x28 hx28 => ?_)
            try simp only [Int.toNat_natCast] at hx28
            refine alloc_intro (cs := (Gs.cv Gs.zc).toArray) (by kernel_rfl) (fun b29 w29 e29 h_b29 _ U29 => ?_)
            have na_rd118_b29 := rd118.apart e29
            have na_own_x_b29 := own_x.apart e29
            have ne_b4_b29 : b4 ≠ b29 := by have := lt_get h_b4; omega
            have ge_b29 : w.heap.size ≤ b29 := by have := hF.size; omega
            replace rd118 := rd118.upd0 U29
            replace own_x := own_x.upd0 U29
            replace h_b4 := U29.get0 h_b4
            replace hF := hF.go0 U29
            clear e29
            refine store_intro (n := 5) (cs' := (Gs.cv x28).toArray) (by kernel_rfl) (by rfl) (by first | rfl | (simp [Value.cells, Value.oneCell', Gs.cv, Gs.fv, Gs.ie]; done)) h_b29 (by first | exact Nat.le_of_ble_eq_true rfl | (simp; done) | omega) (by rfl) (fun w30 N30 _ U30 => ?_)
            replace rd118 := rd118.upd1 U30 na_rd118_b29
            replace own_x := own_x.upd1 U30 na_own_x_b29
            replace h_b4 := U30.get1 h_b4 ne_b4_b29
            replace h_b29 := N30
            replace hF := hF.go1 U30 ge_b29
            refine drawn_S (S := no) (fun w31 U31 => ?_)
            replace rd118 := rd118.upd0 U31
            replace own_x := own_x.upd0 U31
            replace h_b4 := U31.get0 h_b4
            replace h_b29 := U31.get0 h_b29
            replace hF := hF.go0 U31
            refine qop_run (fun w' hw' => by have h_b29 := hw'.get0 h_b29; exact (ldA (n := 5) (cs' := (Gs.cv x28).toArray) (by kernel_rfl) h_b29 (by first | exact Nat.le_of_ble_eq_true rfl | (simp; done) | omega) (by rfl))) ?_
            refine qop_run (fun w' hw' => (fieldAt_eq (off := 2) (by kernel_rfl))) ?_
            refine qop_run (fun w' hw' => by have h_b4 := hw'.get0 h_b4; exact (ldC (by kernel_rfl) h_b4 (by rfl))) ?_
            refine qidx Gs.encC (by kernel_rfl) (by kernel_rfl) (fun w' hw' => (own_x.upd0 hw').rdS) (Fr.refl _ _ _) (by first | rfl | assumption | omega) (by omega) (by omega) (fun x32 hx32 => ?_)
            try simp only [Int.toNat_natCast] at hx32
            refine qop_call (fun w' hw' => c_law_stands (hpw.get hx32)) ?_
            refine qop_F (fun w' hw' => (ne_Cell _)) (fun hne => hne (Gs.stands_get hx28 hx32)) ?_
            refine ext_intro (fun w34 U34 => ?_)
            replace rd118 := rd118.upd0 U34
            replace own_x := own_x.upd0 U34
            replace h_b4 := U34.get0 h_b4
            replace h_b29 := U34.get0 h_b29
            replace hF := hF.go0 U34
            refine condf ?_
            first | refine opv_run (add_i64 _ (by omega)) ?_ | refine opv_run (addI _ _ _ _) ?_
            exact ⟨⟨k + 1, (by first | exact g146 | rfl), by omega, rd118, own_x, h_b4, hF⟩, cnt_lt (by first | rfl | exact g146) rfl (by omega)⟩
          · refine condf ?_
            refine hJ4 _ _ ?_
            exact hF
      · have hF := hI
        exact ⟨rfl, hF⟩
    · refine opv_run (notF) ?_
      refine gdtt ?_
      refine opv_run (fieldAt_eq (off := 2) (by kernel_rfl)) ?_
      refine gdtt ?_
      refine opv_run (ldC (by kernel_rfl) h_b19 (by rfl)) ?_
      refine gdtt ?_
      refine opv_run (fieldAt_eq (off := 3) (by kernel_rfl)) ?_
      refine gdtt ?_
      refine opv_run (ldC (by kernel_rfl) h_b4 (by rfl)) ?_
      refine gdtt ?_
      have hal : q80.alone = false := by assumption
      have hqf := Gs.readQ_F (cs := ps) (cur := cu) (x := x) (by rw [← hq80]; exact hal)
      rw [← hq80] at hqf
      have hiw : Gs.its l80 = Gs.wantM ps := hi80.symm.trans hqf.2
      have hwl := Gs.want_len ps
      have hll := congrArg List.length hiw
      rw [Gs.its_len] at hll
      refine opv_F (neI _ _ _ _ _) (fun hne => hne hqf.1) ?_
      refine gdtt ?_
      refine gdff ?_
      refine opv_run (ldA (n := 4) (cs' := #[.int .u8 q80.aid, .bool q80.alone, .int .i64 q80.cur, .slice A80 l80.length c80]) (by kernel_rfl) h_b19 (by first | exact Nat.le_of_ble_eq_true rfl | (simp; done) | omega) (by rfl)) ?_
      refine gdff ?_
      refine opv_run (ldA (n := 4) (by kernel_rfl) h_b4 (by first | exact Nat.le_of_ble_eq_true rfl | (simp; done) | omega) (by rfl)) ?_
      refine gdff ?_
      refine callF_T (c_law_items rd80 rfl rdc80 own_x.rdS hpl hb4 hpw (by omega) (Gs.its_of hiw (p := fun _ c => c.length ≤ 100000) (fun y hy => by have := Gs.want_bd hy; omega))) (decide_eq_true (by rw [hal, hiw])) (fun w36 U36 => ?_)
      replace own_p := own_p.upd0 U36
      replace own_x := own_x.upd0 U36
      replace rd1 := rd1.upd0 U36
      replace own79 := own79.upd0 U36
      replace rd80 := rd80.upd0 U36
      replace rdc80 := rdc80.upd0 U36
      replace h_bp := U36.get0 h_bp
      replace h_b4 := U36.get0 h_b4
      replace h_b19 := U36.get0 h_b19
      replace hF := hF.go0 U36
      refine gdff ?_
      refine opv_run (notT) ?_
      refine gdtt ?_
      refine pickf ?_
      refine pickt ?_
      refine condf ?_
      refine callF_ex (c_rp_Buffer h_bp own_p hpl (x := x) hb4 hpw) (fun v37 w37 D37 => ?_)
      obtain ⟨own117, U37⟩ := D37
      obtain ⟨A117, c117, rfl, _⟩ := own117.rd1
      have nx37_own_p_own117 : ∀ k, ownS _ k → ¬ ownS _ k := fun k hk hs => by have := (Own.ge own_p hk).2; have := (Own.ge own117 hs).1; omega
      have nx37_own_x_own117 : ∀ k, ownS _ k → ¬ ownS _ k := fun k hk hs => by have := (Own.ge own_x hk).2; have := (Own.ge own117 hs).1; omega
      have nx37_h_bp_own117 : ¬ ownS _ bp := fun h => by have := (Own.ge own117 h).1; have := lt_get h_bp; omega
      have nx37_h_b4_own117 : ¬ ownS _ b4 := fun h => by have := (Own.ge own117 h).1; have := lt_get h_b4; omega
      have nx37_rd1_own117 : _ ∨ ∀ k, _ → ¬ ownS _ k := (rd1.lt).imp_right fun h k hk hs => by have := h k hk; have := (Own.ge own117 hs).1; omega
      have nx37_own79_own117 : ∀ k, ownS _ k → ¬ ownS _ k := fun k hk hs => by have := (Own.ge own79 hk).2; have := (Own.ge own117 hs).1; omega
      have nx37_rd80_own117 : _ ∨ ∀ k, _ → ¬ ownS _ k := (rd80.lt).imp_right fun h k hk hs => by have := h k hk; have := (Own.ge own117 hs).1; omega
      have nx37_rdc80_own117 : _ ∨ ∀ k, _ → ¬ ownS _ k := (rdc80.lt).imp_right fun h k hk hs => by have := h k hk; have := (Own.ge own117 hs).1; omega
      have nx37_h_b19_own117 : ¬ ownS _ b19 := fun h => by have := (Own.ge own117 h).1; have := lt_get h_b19; omega
      replace own117 := own117.mono (B' := w.heap.size) hF.size
      replace own_p := own_p.upd0 U37
      replace own_x := own_x.upd0 U37
      replace rd1 := rd1.upd0 U37
      replace own79 := own79.upd0 U37
      replace rd80 := rd80.upd0 U37
      replace rdc80 := rdc80.upd0 U37
      replace h_bp := U37.get0 h_bp
      replace h_b4 := U37.get0 h_b4
      replace h_b19 := U37.get0 h_b19
      replace hF := hF.go0 U37
      refine callF_ex (c_gr_Buffer (bs := (Gs.bufB ps cu x)) own117.rdS rfl own117.le_cap (Gs.bufB_bs hpw hx) (by omega)) (fun v38 w38 D38 => ?_)
      obtain ⟨a118, k118, xs118, A118, c118, hq118, rfl, rd118, hw118, gA118, U38⟩ := D38
      rw [show Gs.bufV (Gs.bufB ps cu x) = (x, cu, ps.map Gs.standM) from by unfold Gs.bufV; rw [hbb]] at hq118
      cases hq118
      rw [show Gs.errV (Gs.bufF (Gs.bufB ps cu x)) = 0 from by rw [hbb]; rfl]
      have na_rd118_own_p : _ ∨ ∀ k, _ → ¬ ownS _ k := gA118.imp_right fun h k hk hs => by have := h k hk; have := (Own.ge own_p hs).2; omega
      have na_rd118_own_x : _ ∨ ∀ k, _ → ¬ ownS _ k := gA118.imp_right fun h k hk hs => by have := h k hk; have := (Own.ge own_x hs).2; omega
      have na_rd118_bp := gA118.ne (lt_get h_bp)
      have na_rd118_b4 := gA118.ne (lt_get h_b4)
      have na_rd118_own79 : _ ∨ ∀ k, _ → ¬ ownS _ k := gA118.imp_right fun h k hk hs => by have := h k hk; have := (Own.ge own79 hs).2; omega
      have na_rd118_b19 := gA118.ne (lt_get h_b19)
      have na_rd118_own117 : _ ∨ ∀ k, _ → ¬ ownS _ k := gA118.imp_right fun h k hk hs => by have := h k hk; have := (Own.ge own117 hs).2; omega
      replace own_p := own_p.upd0 U38
      replace own_x := own_x.upd0 U38
      replace rd1 := rd1.upd0 U38
      replace own79 := own79.upd0 U38
      replace rd80 := rd80.upd0 U38
      replace rdc80 := rdc80.upd0 U38
      replace own117 := own117.upd0 U38
      replace h_bp := U38.get0 h_bp
      replace h_b4 := U38.get0 h_b4
      replace h_b19 := U38.get0 h_b19
      replace hF := hF.go0 U38
      refine opv_run (ext_t (by rfl)) ?_
      refine opv_run (ext_t (by rfl)) ?_
      refine opv_run (ext_t (by rfl)) ?_
      refine opv_run (ext_t (by rfl)) ?_
      refine opv_F (neI _ _ _ _ _) (fun hne => hne rfl) ?_
      refine gdff ?_
      refine gdff ?_
      refine opv_run (fieldAt_eq (off := 3) (by kernel_rfl)) ?_
      refine gdff ?_
      refine opv_run (ldC (by kernel_rfl) h_b4 (by rfl)) ?_
      refine gdff ?_
      refine opv_F (neI _ _ _ _ _) (fun hne => hne rfl) ?_
      refine pickf ?_
      refine gdff ?_
      refine gdff ?_
      refine opv_F (neI _ _ _ _ _) (fun hne => hne rfl) ?_
      refine pickf ?_
      refine gdff ?_
      refine gdff ?_
      refine opv_run (len_sl (by kernel_rfl) _ _ _) ?_
      refine gdff ?_
      refine opv_run (fieldAt_eq (off := 2) (by kernel_rfl)) ?_
      refine gdff ?_
      refine opv_run (ldC (by kernel_rfl) h_b4 (by rfl)) ?_
      refine gdff ?_
      refine opv_run (len_sl (by kernel_rfl) _ _ _) ?_
      refine gdff ?_
      refine opv_F (neI _ _ _ _ _) (fun hne => hne (by rw [List.length_map, hpl])) ?_
      refine pickf ?_
      refine condf ?_
      refine join_cut (fun g w' => (Upd no w w')) (fun J6 hJ6 => ?_) (fun gJ6 wJ6 hI => ?_)
      · refine opv_run (len_sl (by kernel_rfl) _ _ _) ?_
        refine loop_intro (fun g w' => ∃ (k : Nat), (g 146 = .int .i64 (k : Int)) ∧ (k ≤ (ps.map Gs.standM).length) ∧ (Rd w' A118 (rows Gs.cv (ps.map Gs.standM))) ∧ (Own w.heap.size w' 35 5 (.slice (some ⟨gx, 0, none⟩) N N) (rows Gs.cv ps)) ∧ (w'.heap[b4]? = some (.cells #[.int .i64 r, .int .i64 c, .slice (some ⟨gx, 0, none⟩) N N, .int .i64 cu] 27 (0, 0))) ∧ (Upd no w w')) (fun g w' => (ps.map Gs.standM).length - (RowKit.intOf (g 146)).toNat) ?_ (fun g7 wl7 hI => ?_)
        · exact ⟨0, (by first | exact g146 | rfl), Nat.zero_le _, rd118, own_x, h_b4, hF⟩
        · obtain ⟨k, g146, hk, rd118, own_x, h_b4, hF⟩ := hI
          try rw [g146]
          have hml : (ps.map Gs.standM).length = ps.length := List.length_map ..
          refine opv_dec (lss _ _ _ _) (fun h39 => ?_) (fun h39 => ?_)
          · refine condt ?_
            refine idx_rows Gs.encC (by kernel_rfl) (by kernel_rfl) rd118 (by first | rfl | assumption | omega) (by omega) (by omega) (fun x40 hx40 => ?_)
            try simp only [Int.toNat_natCast] at hx40
            refine alloc_intro (cs := (Gs.cv Gs.zc).toArray) (by kernel_rfl) (fun b41 w41 e41 h_b41 _ U41 => ?_)
            have na_rd118_b41 := rd118.apart e41
            have na_own_x_b41 := own_x.apart e41
            have ne_b4_b41 : b4 ≠ b41 := by have := lt_get h_b4; omega
            have ge_b41 : w.heap.size ≤ b41 := by have := hF.size; omega
            replace rd118 := rd118.upd0 U41
            replace own_x := own_x.upd0 U41
            replace h_b4 := U41.get0 h_b4
            replace hF := hF.go0 U41
            clear e41
            refine store_intro (n := 5) (cs' := (Gs.cv x40).toArray) (by kernel_rfl) (by rfl) (by first | rfl | (simp [Value.cells, Value.oneCell', Gs.cv, Gs.fv, Gs.ie]; done)) h_b41 (by first | exact Nat.le_of_ble_eq_true rfl | (simp; done) | omega) (by rfl) (fun w42 N42 _ U42 => ?_)
            replace rd118 := rd118.upd1 U42 na_rd118_b41
            replace own_x := own_x.upd1 U42 na_own_x_b41
            replace h_b4 := U42.get1 h_b4 ne_b4_b41
            replace h_b41 := N42
            replace hF := hF.go1 U42 ge_b41
            refine drawn_S (S := no) (fun w43 U43 => ?_)
            replace rd118 := rd118.upd0 U43
            replace own_x := own_x.upd0 U43
            replace h_b4 := U43.get0 h_b4
            replace h_b41 := U43.get0 h_b41
            replace hF := hF.go0 U43
            refine qop_run (fun w' hw' => by have h_b41 := hw'.get0 h_b41; exact (ldA (n := 5) (cs' := (Gs.cv x40).toArray) (by kernel_rfl) h_b41 (by first | exact Nat.le_of_ble_eq_true rfl | (simp; done) | omega) (by rfl))) ?_
            refine qop_run (fun w' hw' => (fieldAt_eq (off := 2) (by kernel_rfl))) ?_
            refine qop_run (fun w' hw' => by have h_b4 := hw'.get0 h_b4; exact (ldC (by kernel_rfl) h_b4 (by rfl))) ?_
            refine qidx Gs.encC (by kernel_rfl) (by kernel_rfl) (fun w' hw' => (own_x.upd0 hw').rdS) (Fr.refl _ _ _) (by first | rfl | assumption | omega) (by omega) (by omega) (fun x44 hx44 => ?_)
            try simp only [Int.toNat_natCast] at hx44
            refine qop_call (fun w' hw' => c_law_stands (hpw.get hx44)) ?_
            refine qop_F (fun w' hw' => (ne_Cell _)) (fun hne => hne (Gs.stands_get hx40 hx44)) ?_
            refine ext_intro (fun w46 U46 => ?_)
            replace rd118 := rd118.upd0 U46
            replace own_x := own_x.upd0 U46
            replace h_b4 := U46.get0 h_b4
            replace h_b41 := U46.get0 h_b41
            replace hF := hF.go0 U46
            refine condf ?_
            first | refine opv_run (add_i64 _ (by omega)) ?_ | refine opv_run (addI _ _ _ _) ?_
            exact ⟨⟨k + 1, (by first | exact g146 | rfl), by omega, rd118, own_x, h_b4, hF⟩, cnt_lt (by first | rfl | exact g146) rfl (by omega)⟩
          · refine condf ?_
            refine hJ6 _ _ ?_
            exact hF
      · have hF := hI
        exact ⟨rfl, hF⟩

end Go.Proofs.YtkjkmahpkfbbnaaGreatDoor
namespace Go.Proofs.YtkjkmahpkfbbnaaGreatDoor
open Go Go.Sh
set_option linter.unusedVariables false
set_option maxRecDepth 100000

theorem c_GrammarReads {r c i x : Int} {A : Option Addr} {n cp : Nat} {cs : List Gs.Cell} {gT : Nat} {eT : TypeId} {fT : Nat × Nat} {w : World} (rd1 : Rd w A (rows Gs.cv cs)) (hn : n = cs.length) (hnm : n ≤ 9223372036854775807) (hgT : Tryz.prog.globalNamed "internal/strconv.uint64pow10" = some gT) (h_gT : w.heap[gT]? = some (.cells Gs.powT eT fT))  (hcw : Gs.Cws cs) (hx : 0 ≤ x ∧ x ≤ 255) :
    Calls Tryz.prog 3 #[.agg #[.int .i64 r, .int .i64 c], .slice A n cp, .int .i64 i, .int .u8 x] w fun e w' => e = .returned (.bool true) ∧ Upd no w w' := by
  by_cases hz : Gs.cellsN r c = 0
  · exact c_reads_0 (N := 0) rd1 hn hnm hgT h_gT hz
  · obtain ⟨N, hN⟩ := Int.eq_ofNat_of_zero_le (Gs.cells_bd r c).1
    by_cases h2 : N ≤ 120
    · exact c_reads_ok rd1 hn hnm hgT h_gT hcw hx hN (by omega) h2
    · exact c_reads_big rd1 hn hnm hgT h_gT hN (by omega)


end Go.Proofs.YtkjkmahpkfbbnaaGreatDoor
