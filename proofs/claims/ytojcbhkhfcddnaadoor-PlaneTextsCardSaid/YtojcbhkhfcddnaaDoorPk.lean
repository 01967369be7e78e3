/-
  Contracts of functions of the program, walked over their shallow forms. No condition but the ones that each states.
-/
import Derived.Test.YtojcbhkhfcddnaaDoorPi
import Derived.Test.YtojcbhkhfcddnaaDoorPlaneLaws2
namespace Go.Proofs.YtojcbhkhfcddnaaDoor
open Go Go.Sh
set_option linter.unusedVariables false
set_option maxRecDepth 100000


/-- greenscreen/greenscreenlaw14.PlaneClones -/
theorem c_PlaneClones_0 {r c : Int} {A : Option Addr} {n cp : Nat} {N : Nat} {cs : List Gs.Cell} {w : World} (rd1 : Rd w A (rows Gs.cv cs)) (hn : n = cs.length) (hnm : n ≤ 9223372036854775807){A2 : Option Addr} {n2 cp2 : Nat} {os : List Gs.Opn} (rd2 : Rd w A2 (rows Gs.ov os)) (hn2 : n2 = os.length) (hn2m : n2 ≤ 9223372036854775807) (hz : Gs.cellsN r c = 0) :
    Calls Tryd.prog 6 #[.agg #[.int .i64 r, .int .i64 c], .slice A n cp, .slice A2 n2 cp2] w fun e w' => e = .returned (.bool true) ∧ Upd no w w' := by
  refine F6.calls ?_
  unfold F6
  have lt_rd1 := Rd.lt rd1
  have lt_rd2 := Rd.lt rd2
  have hF : Upd no w w := Fr.refl _ _ _
  refine box_intro (by rfl) (fun b1 w1 e1 h_b1 _ U1 => ?_)
  have na_rd1_b1 := rd1.apart e1
  have na_rd2_b1 := rd2.apart e1
  have ge_b1 : w.heap.size ≤ b1 := by have := hF.size; omega
  replace rd1 := rd1.upd0 U1
  replace rd2 := rd2.upd0 U1
  replace hF := hF.go0 U1
  clear e1
  refine callF_T (c_law14_alive) (rfl) (fun w2 U2 => ?_)
  replace rd1 := rd1.upd0 U2
  replace rd2 := rd2.upd0 U2
  replace h_b1 := U2.get0 h_b1
  replace hF := hF.go0 U2
  refine opv_run (notT) ?_
  refine condf ?_
  refine opv_run (ldA (n := 2) (by kernel_rfl) h_b1 (by first | exact Nat.le_of_ble_eq_true rfl | (simp; done) | omega) (by rfl)) ?_
  refine callF_ex (c_made_0 rd1 hn hnm hz) (fun v3 w3 D3 => ?_)
  obtain ⟨xa, xb, xc, xd, xe, xf, rfl, U3⟩ := D3
  replace rd1 := rd1.upd0 U3
  replace rd2 := rd2.upd0 U3
  replace h_b1 := U3.get0 h_b1
  replace hF := hF.go0 U3
  refine opv_run (ext_t (by rfl)) ?_
  refine opv_run (ext_t (by rfl)) ?_
  refine opv_run (ext_t (by rfl)) ?_
  refine alloc_intro (cs := #[.int .i64 0, .int .i64 0, .slice none 0 0, .int .i64 0]) (by kernel_rfl) (fun b4 w4 e4 h_b4 _ U4 => ?_)
  have na_rd1_b4 := rd1.apart e4
  have na_rd2_b4 := rd2.apart e4
  have ne_b1_b4 : b1 ≠ b4 := by have := lt_get h_b1; omega
  have ge_b4 : w.heap.size ≤ b4 := by have := hF.size; omega
  replace rd1 := rd1.upd0 U4
  replace rd2 := rd2.upd0 U4
  replace h_b1 := U4.get0 h_b1
  replace hF := hF.go0 U4
  clear e4
  refine store_intro (n := 4) (cs' := #[.int .i64 xa, .int .i64 xb, .slice xd xe xf, .int .i64 xc]) (by kernel_rfl) (by rfl) (by first | rfl | (simp [Value.cells, Value.oneCell', Gs.cv, Gs.ov]; done)) h_b4 (by first | exact Nat.le_of_ble_eq_true rfl | (simp; done) | omega) (by rfl) (fun w5 N5 _ U5 => ?_)
  replace rd1 := rd1.upd1 U5 na_rd1_b4
  replace rd2 := rd2.upd1 U5 na_rd2_b4
  replace h_b1 := U5.get1 h_b1 ne_b1_b4
  replace h_b4 := N5
  replace hF := hF.go1 U5 ge_b4
  refine opv_run (notF) ?_
  refine gdtf ?_
  refine gdtf ?_
  refine gdtf ?_
  refine pickt ?_
  refine condt ?_
  exact ⟨rfl, hF⟩

/-- greenscreen/greenscreenlaw14.PlaneClones -/
theorem c_PlaneClones_big {r c : Int} {A : Option Addr} {n cp : Nat} {N : Nat} {cs : List Gs.Cell} {w : World} (rd1 : Rd w A (rows Gs.cv cs)) (hn : n = cs.length) (hnm : n ≤ 9223372036854775807){A2 : Option Addr} {n2 cp2 : Nat} {os : List Gs.Opn} (rd2 : Rd w A2 (rows Gs.ov os)) (hn2 : n2 = os.length) (hn2m : n2 ≤ 9223372036854775807) (hN : Gs.cellsN r c = N) (hz : 200 < N) :
    Calls Tryd.prog 6 #[.agg #[.int .i64 r, .int .i64 c], .slice A n cp, .slice A2 n2 cp2] w fun e w' => e = .returned (.bool true) ∧ Upd no w w' := by
  refine F6.calls ?_
  unfold F6
  have lt_rd1 := Rd.lt rd1
  have lt_rd2 := Rd.lt rd2
  have hF : Upd no w w := Fr.refl _ _ _
  refine box_intro (by rfl) (fun b1 w1 e1 h_b1 _ U1 => ?_)
  have na_rd1_b1 := rd1.apart e1
  have na_rd2_b1 := rd2.apart e1
  have ge_b1 : w.heap.size ≤ b1 := by have := hF.size; omega
  replace rd1 := rd1.upd0 U1
  replace rd2 := rd2.upd0 U1
  replace hF := hF.go0 U1
  clear e1
  refine callF_T (c_law14_alive) (rfl) (fun w2 U2 => ?_)
  replace rd1 := rd1.upd0 U2
  replace rd2 := rd2.upd0 U2
  replace h_b1 := U2.get0 h_b1
  replace hF := hF.go0 U2
  refine opv_run (notT) ?_
  refine condf ?_
  refine opv_run (ldA (n := 2) (by kernel_rfl) h_b1 (by first | exact Nat.le_of_ble_eq_true rfl | (simp; done) | omega) (by rfl)) ?_
  refine callF_ex (c_made_big rd1 hn hnm hN hz) (fun v3 w3 D3 => ?_)
  obtain ⟨xa, xb, xc, xd, xe, xf, rfl, U3⟩ := D3
  replace rd1 := rd1.upd0 U3
  replace rd2 := rd2.upd0 U3
  replace h_b1 := U3.get0 h_b1
  replace hF := hF.go0 U3
  refine opv_run (ext_t (by rfl)) ?_
  refine opv_run (ext_t (by rfl)) ?_
  refine opv_run (ext_t (by rfl)) ?_
  refine alloc_intro (cs := #[.int .i64 0, .int .i64 0, .slice none 0 0, .int .i64 0]) (by kernel_rfl) (fun b4 w4 e4 h_b4 _ U4 => ?_)
  have na_rd1_b4 := rd1.apart e4
  have na_rd2_b4 := rd2.apart e4
  have ne_b1_b4 : b1 ≠ b4 := by have := lt_get h_b1; omega
  have ge_b4 : w.heap.size ≤ b4 := by have := hF.size; omega
  replace rd1 := rd1.upd0 U4
  replace rd2 := rd2.upd0 U4
  replace h_b1 := U4.get0 h_b1
  replace hF := hF.go0 U4
  clear e4
  refine store_intro (n := 4) (cs' := #[.int .i64 xa, .int .i64 xb, .slice xd xe xf, .int .i64 xc]) (by kernel_rfl) (by rfl) (by first | rfl | (simp [Value.cells, Value.oneCell', Gs.cv, Gs.ov]; done)) h_b4 (by first | exact Nat.le_of_ble_eq_true rfl | (simp; done) | omega) (by rfl) (fun w5 N5 _ U5 => ?_)
  replace rd1 := rd1.upd1 U5 na_rd1_b4
  replace rd2 := rd2.upd1 U5 na_rd2_b4
  replace h_b1 := U5.get1 h_b1 ne_b1_b4
  replace h_b4 := N5
  replace hF := hF.go1 U5 ge_b4
  refine opv_run (notF) ?_
  refine gdtf ?_
  refine gdtf ?_
  refine gdtf ?_
  refine pickt ?_
  refine condt ?_
  exact ⟨rfl, hF⟩

/-- greenscreen/greenscreenlaw14.PlaneClones -/
theorem c_PlaneClones_ok {r c : Int} {A : Option Addr} {n cp : Nat} {N : Nat} {cs : List Gs.Cell} {w : World} (rd1 : Rd w A (rows Gs.cv cs)) (hn : n = cs.length) (hnm : n ≤ 9223372036854775807){A2 : Option Addr} {n2 cp2 : Nat} {os : List Gs.Opn} (rd2 : Rd w A2 (rows Gs.ov os)) (hn2 : n2 = os.length) (hn2m : n2 ≤ 9223372036854775807) (hcw : Gs.Cws cs) (hN : Gs.cellsN r c = N) (hz : N ≠ 0) (hz2 : N ≤ 200) :
    Calls Tryd.prog 6 #[.agg #[.int .i64 r, .int .i64 c], .slice A n cp, .slice A2 n2 cp2] w fun e w' => e = .returned (.bool true) ∧ Upd no w w' := by
  refine F6.calls ?_
  unfold F6
  have lt_rd1 := Rd.lt rd1
  have lt_rd2 := Rd.lt rd2
  have hF : Upd no w w := Fr.refl _ _ _
  refine box_intro (by rfl) (fun b1 w1 e1 h_b1 _ U1 => ?_)
  have na_rd1_b1 := rd1.apart e1
  have na_rd2_b1 := rd2.apart e1
  have ge_b1 : w.heap.size ≤ b1 := by have := hF.size; omega
  replace rd1 := rd1.upd0 U1
  replace rd2 := rd2.upd0 U1
  replace hF := hF.go0 U1
  clear e1
  refine callF_T (c_law14_alive) (rfl) (fun w2 U2 => ?_)
  replace rd1 := rd1.upd0 U2
  replace rd2 := rd2.upd0 U2
  replace h_b1 := U2.get0 h_b1
  replace hF := hF.go0 U2
  refine opv_run (notT) ?_
  refine condf ?_
  refine opv_run (ldA (n := 2) (by kernel_rfl) h_b1 (by first | exact Nat.le_of_ble_eq_true rfl | (simp; done) | omega) (by rfl)) ?_
  refine callF_ex (c_made_ok rd1 hn hnm hN hz hz2) (fun v3 w3 D3 => ?_)
  obtain ⟨bp, gp, gx, rfl, gbp, h_bp, own_p, own_x, npx, U3⟩ := D3
  have na_rd1_bp := (Rd.lt rd1).ne (b := bp) (by omega)
  have na_rd2_bp := (Rd.lt rd2).ne (b := bp) (by omega)
  have ne_b1_bp : b1 ≠ bp := by have := lt_get h_b1; omega
  have ge_bp : w.heap.size ≤ bp := by have := hF.size; omega
  have nx3_rd1_own_p : _ ∨ ∀ k, blkOf _ k → ¬ ownS _ k := (Rd.lt rd1).imp_right fun h k hk hs => by have := h k hk; have := (Own.ge own_p hs).1; omega
  have nx3_rd2_own_p : _ ∨ ∀ k, blkOf _ k → ¬ ownS _ k := (Rd.lt rd2).imp_right fun h k hk hs => by have := h k hk; have := (Own.ge own_p hs).1; omega
  have nx3_h_b1_own_p : ¬ ownS _ b1 := fun h => by have := (Own.ge own_p h).1; have := lt_get h_b1; omega
  replace own_p := own_p.mono (B' := w.heap.size) hF.size
  have nx3_rd1_own_x : _ ∨ ∀ k, blkOf _ k → ¬ ownS _ k := (Rd.lt rd1).imp_right fun h k hk hs => by have := h k hk; have := (Own.ge own_x hs).1; omega
  have nx3_rd2_own_x : _ ∨ ∀ k, blkOf _ k → ¬ ownS _ k := (Rd.lt rd2).imp_right fun h k hk hs => by have := h k hk; have := (Own.ge own_x hs).1; omega
  have nx3_h_b1_own_x : ¬ ownS _ b1 := fun h => by have := (Own.ge own_x h).1; have := lt_get h_b1; omega
  replace own_x := own_x.mono (B' := w.heap.size) hF.size
  replace rd1 := rd1.upd0 U3
  replace rd2 := rd2.upd0 U3
  replace h_b1 := U3.get0 h_b1
  replace hF := hF.go0 U3
  obtain ⟨ps, hps⟩ : ∃ ps, ps = Gs.madeK N cs cs.length := ⟨_, rfl⟩
  rw [← hps] at own_p own_x
  have hpl : N = ps.length := by rw [hps, Gs.made_len]
  have hpw : Gs.Cws ps := by rw [hps]; exact Gs.made_w hcw _
  clear hps
  refine opv_run (ext_t (by rfl)) ?_
  refine opv_run (ext_t (by rfl)) ?_
  refine opv_run (ext_t (by rfl)) ?_
  refine alloc_intro (cs := #[.int .i64 0, .int .i64 0, .slice none 0 0, .int .i64 0]) (by kernel_rfl) (fun b4 w4 e4 h_b4 _ U4 => ?_)
  have na_rd1_b4 := rd1.apart e4
  have na_rd2_b4 := rd2.apart e4
  have ne_b1_b4 : b1 ≠ b4 := by have := lt_get h_b1; omega
  have ne_bp_b4 : bp ≠ b4 := by have := lt_get h_bp; omega
  have na_own_p_b4 := own_p.apart e4
  have na_own_x_b4 := own_x.apart e4
  have ge_b4 : w.heap.size ≤ b4 := by have := hF.size; omega
  replace rd1 := rd1.upd0 U4
  replace rd2 := rd2.upd0 U4
  replace own_p := own_p.upd0 U4
  replace own_x := own_x.upd0 U4
  replace h_b1 := U4.get0 h_b1
  replace h_bp := U4.get0 h_bp
  replace hF := hF.go0 U4
  clear e4
  refine store_intro (n := 4) (cs' := #[.int .i64 r, .int .i64 c, .slice (some ⟨gx, 0, none⟩) N N, .int .i64 0]) (by kernel_rfl) (by rfl) (by first | rfl | (simp [Value.cells, Value.oneCell', Gs.cv, Gs.ov]; done)) h_b4 (by first | exact Nat.le_of_ble_eq_true rfl | (simp; done) | omega) (by rfl) (fun w5 N5 _ U5 => ?_)
  replace rd1 := rd1.upd1 U5 na_rd1_b4
  replace rd2 := rd2.upd1 U5 na_rd2_b4
  replace own_p := own_p.upd1 U5 na_own_p_b4
  replace own_x := own_x.upd1 U5 na_own_x_b4
  replace h_b1 := U5.get1 h_b1 ne_b1_b4
  replace h_bp := U5.get1 h_bp ne_bp_b4
  replace h_b4 := N5
  replace hF := hF.go1 U5 ge_b4
  refine opv_run (notT) ?_
  refine gdff ?_
  refine gdff ?_
  refine opv_run (len_sl (by kernel_rfl) _ _ _) ?_
  refine gdff ?_
  refine opv_dec (gtr _ _ _ _) (fun h6 => ?_) (fun h6 => ?_)
  · refine pickf ?_
    refine condt ?_
    exact ⟨rfl, hF⟩
  · refine pickf ?_
    refine condf ?_
    refine join_cut (fun g w' => (Upd no w w')) (fun J1 hJ1 => ?_) (fun gJ1 wJ1 hI => ?_)
    · refine opv_run (len_sl (by kernel_rfl) _ _ _) ?_
      refine loop_intro (fun g w' => ∃ (k : Nat) (ps : List Gs.Cell) (cur : Int), (g 34 = .int .i64 (k : Int)) ∧ (k ≤ os.length) ∧ (N = ps.length) ∧ (w'.heap[bp]? = some (.cells #[.int .i64 r, .int .i64 c, .slice (some ⟨gp, 0, none⟩) N N, .int .i64 cur] 66 (0, 0))) ∧ (Own w.heap.size w' 36 5 (.slice (some ⟨gp, 0, none⟩) N N) (rows Gs.cv ps)) ∧ (Rd w' A2 (rows Gs.ov os)) ∧ (Upd no w w')) (fun g w' => os.length - (RowKit.intOf (g 34)).toNat) ?_ (fun g2 wl2 hI => ?_)
      · exact ⟨0, _, _, (by first | exact g34 | rfl), Nat.zero_le _, hpl, h_bp, own_p, rd2, hF⟩
      · obtain ⟨k, ps, cur, g34, hk, hpl, h_bp, own_p, rd2, hF⟩ := hI
        try rw [g34]
        refine opv_dec (lss _ _ _ _) (fun h8 => ?_) (fun h8 => ?_)
        · refine condt ?_
          refine join_cut (fun g w' => ∃ (ps : List Gs.Cell) (cur : Int), (N = ps.length) ∧ (w'.heap[bp]? = some (.cells #[.int .i64 r, .int .i64 c, .slice (some ⟨gp, 0, none⟩) N N, .int .i64 cur] 66 (0, 0))) ∧ (Own w.heap.size w' 36 5 (.slice (some ⟨gp, 0, none⟩) N N) (rows Gs.cv ps)) ∧ (Rd w' A2 (rows Gs.ov os)) ∧ (Upd no w w')) (fun J3 hJ3 => ?_) (fun gJ3 wJ3 hI => ?_)
          · refine idx_rows Gs.encO (by kernel_rfl) (by kernel_rfl) rd2 (by first | rfl | assumption | omega) (by omega) (by omega) (fun x9 hx9 => ?_)
            try simp only [Int.toNat_natCast] at hx9
            refine alloc_intro (cs := #[.int .i64 0, .int .i64 0, .int .i64 0, .int .u8 0, .bool false, .bool false, .int .u8 0, .int .u8 0]) (by kernel_rfl) (fun b10 w10 e10 h_b10 _ U10 => ?_)
            have ne_bp_b10 : bp ≠ b10 := by have := lt_get h_bp; omega
            have na_own_p_b10 := own_p.apart e10
            have na_rd2_b10 := rd2.apart e10
            have ge_b10 : w.heap.size ≤ b10 := by have := hF.size; omega
            replace own_p := own_p.upd0 U10
            replace rd2 := rd2.upd0 U10
            replace h_bp := U10.get0 h_bp
            replace hF := hF.go0 U10
            clear e10
            refine store_intro (n := 8) (cs' := (Gs.ov x9).toArray) (by kernel_rfl) (by rfl) (by first | rfl | (simp [Value.cells, Value.oneCell', Gs.cv, Gs.ov]; done)) h_b10 (by first | exact Nat.le_of_ble_eq_true rfl | (simp; done) | omega) (by rfl) (fun w11 N11 _ U11 => ?_)
            replace own_p := own_p.upd1 U11 na_own_p_b10
            replace rd2 := rd2.upd1 U11 na_rd2_b10
            replace h_bp := U11.get1 h_bp ne_bp_b10
            replace h_b10 := N11
            replace hF := hF.go1 U11 ge_b10
            refine callF_ex (c_Plane_Clone h_bp own_p hpl (by omega) (by omega)) (fun v12 w12 D12 => ?_)
            obtain ⟨bq39, A39, c39, rfl, gb39, h_bq39, own39, U12⟩ := D12
            have ne_bp_bq39 : bp ≠ bq39 := by have := lt_get h_bp; omega
            have na_own_p_bq39 : ∀ k, ownS _ k → k ≠ bq39 := fun k hk => by have := (Own.ge own_p hk).2; omega
            have na_rd2_bq39 := (Rd.lt rd2).ne (b := bq39) (by omega)
            have ne_b10_bq39 : b10 ≠ bq39 := by have := lt_get h_b10; omega
            have ge_bq39 : w.heap.size ≤ bq39 := by have := hF.size; omega
            have nx12_h_bp_own39 : ¬ ownS _ bp := fun h => by have := (Own.ge own39 h).1; have := lt_get h_bp; omega
            have nx12_own_p_own39 : ∀ k, ownS _ k → ¬ ownS _ k := fun k hk hs => by have := (Own.ge own_p hk).2; have := (Own.ge own39 hs).1; omega
            have nx12_rd2_own39 : _ ∨ ∀ k, blkOf _ k → ¬ ownS _ k := (Rd.lt rd2).imp_right fun h k hk hs => by have := h k hk; have := (Own.ge own39 hs).1; omega
            have nx12_h_b10_own39 : ¬ ownS _ b10 := fun h => by have := (Own.ge own39 h).1; have := lt_get h_b10; omega
            replace own39 := own39.mono (B' := w.heap.size) hF.size
            replace own_p := own_p.upd0 U12
            replace rd2 := rd2.upd0 U12
            replace h_bp := U12.get0 h_bp
            replace h_b10 := U12.get0 h_b10
            replace hF := hF.go0 U12
            replace own39 := own39.mono (B' := w.heap.size) (by have := hF.size; omega)
            refine callF_T (c_plane_Same h_bp own_p hpl h_bq39 own39 hpl (by omega)) (decide_eq_true ⟨⟨rfl, rfl⟩, rfl, rfl⟩) (fun w13 U13 => ?_)
            replace own_p := own_p.upd0 U13
            replace rd2 := rd2.upd0 U13
            replace own39 := own39.upd0 U13
            replace h_bp := U13.get0 h_bp
            replace h_b10 := U13.get0 h_b10
            replace h_bq39 := U13.get0 h_bq39
            replace hF := hF.go0 U13
            refine opv_run (notT) ?_
            refine condf ?_
            refine drawn_S (S := no) (fun w14 U14 => ?_)
            replace own_p := own_p.upd0 U14
            replace rd2 := rd2.upd0 U14
            replace own39 := own39.upd0 U14
            replace h_bp := U14.get0 h_bp
            replace h_b10 := U14.get0 h_b10
            replace h_bq39 := U14.get0 h_bq39
            replace hF := hF.go0 U14
            refine qop_run (fun w' hw' => (fieldAt_eq (off := 1) (by kernel_rfl))) ?_
            refine qop_run (fun w' hw' => by have h_b10 := hw'.get0 h_b10; exact (ldC (by kernel_rfl) h_b10 (by rfl))) ?_
            refine qop_run (fun w' hw' => (and_4095 _ _)) ?_
            refine qop_call (fun w' hw' => by have h_bp := hw'.get0 h_bp; have own_p := own_p.upd0 hw'; exact c_Plane_Len h_bp own_p hpl) ?_
            refine qop_run (fun w' hw' => (remN _ (by omega) (by omega) (by omega))) ?_
            refine ext_intro (fun w16 U16 => ?_)
            replace own_p := own_p.upd0 U16
            replace rd2 := rd2.upd0 U16
            replace own39 := own39.upd0 U16
            replace h_bp := U16.get0 h_bp
            replace h_b10 := U16.get0 h_b10
            replace h_bq39 := U16.get0 h_bq39
            replace hF := hF.go0 U16
            obtain ⟨a, ha⟩ : ∃ a, a = x9.at' % 4096 % (N : Int) := ⟨_, rfl⟩
            rw [← ha]
            have hai := Gs.place x9.at' hz
            rw [← ha] at hai
            clear ha
            refine callF_val (c_Plane_At h_bq39 own39 hpl (i := a)) (fun w17 U17 => ?_)
            replace own_p := own_p.upd0 U17
            replace rd2 := rd2.upd0 U17
            replace own39 := own39.upd0 U17
            replace h_bp := U17.get0 h_bp
            replace h_b10 := U17.get0 h_b10
            replace h_bq39 := U17.get0 h_bq39
            replace hF := hF.go0 U17
            refine alloc_intro (cs := (Gs.cv Gs.zc).toArray) (by kernel_rfl) (fun b18 w18 e18 h_b18 _ U18 => ?_)
            have ne_bp_b18 : bp ≠ b18 := by have := lt_get h_bp; omega
            have na_own_p_b18 := own_p.apart e18
            have na_rd2_b18 := rd2.apart e18
            have ne_b10_b18 : b10 ≠ b18 := by have := lt_get h_b10; omega
            have ne_bq39_b18 : bq39 ≠ b18 := by have := lt_get h_bq39; omega
            have na_own39_b18 := own39.apart e18
            have ge_b18 : w.heap.size ≤ b18 := by have := hF.size; omega
            replace own_p := own_p.upd0 U18
            replace rd2 := rd2.upd0 U18
            replace own39 := own39.upd0 U18
            replace h_bp := U18.get0 h_bp
            replace h_b10 := U18.get0 h_b10
            replace h_bq39 := U18.get0 h_bq39
            replace hF := hF.go0 U18
            clear e18
            refine store_intro (n := 5) (cs' := (Gs.cv (Gs.getC ps a)).toArray) (by kernel_rfl) (by rfl) (by first | rfl | (simp [Value.cells, Value.oneCell', Gs.cv, Gs.ov]; done)) h_b18 (by first | exact Nat.le_of_ble_eq_true rfl | (simp; done) | omega) (by rfl) (fun w19 N19 _ U19 => ?_)
            replace own_p := own_p.upd1 U19 na_own_p_b18
            replace rd2 := rd2.upd1 U19 na_rd2_b18
            replace own39 := own39.upd1 U19 na_own39_b18
            replace h_bp := U19.get1 h_bp ne_bp_b18
            replace h_b10 := U19.get1 h_b10 ne_b10_b18
            replace h_bq39 := U19.get1 h_bq39 ne_bq39_b18
            replace h_b18 := N19
            replace hF := hF.go1 U19 ge_b18
            refine opv_run (fieldAt_eq (off := 3) (by kernel_rfl)) ?_
            refine opv_run (ldA (n := 5) (cs' := (Gs.cv x9.c).toArray) (by kernel_rfl) h_b10 (by first | exact Nat.le_of_ble_eq_true rfl | (simp; done) | omega) (by rfl)) ?_
            refine callF_ex (c_Plane_Set h_bp own_p hpl (i := a) (x := x9.c)) (fun v20 w20 D20 => ?_)
            obtain ⟨rfl, N20, U20⟩ := D20
            have own_p_o := own_p
            replace h_bp := U20.get h_bp (fun h => by first | (have := Own.ge own_p_o h; omega) | exact Own.ne_blk own_p_o h_bp (by decide) _ h rfl | exact Own.not_loop own_p_o h_bp (by assumption) _ h rfl | exact Own.not_def own_p_o h_bp _ h rfl | simp_all)
            replace own_p := N20
            replace rd2 := rd2.updS U20 nx3_rd2_own_p
            replace h_b10 := U20.get h_b10 (fun h => na_own_p_b10 _ h rfl)
            replace h_bq39 := U20.get h_bq39 (fun h => na_own_p_bq39 _ h rfl)
            replace own39 := own39.updS U20 (fun k hk hs => nx12_own_p_own39 k hs hk)
            replace h_b18 := U20.get h_b18 (fun h => na_own_p_b18 _ h rfl)
            replace hF := hF.go U20 (fun i h hs => by first | exact hs | exact .inl hs | exact .inr hs | (have := (Own.ge own_p_o hs).1; omega))
            clear own_p_o
            have hpl2 : N = (Gs.setC ps a x9.c).length := by rw [Gs.setC_len]; exact hpl
            refine callF_ex (c_Plane_Point h_bp own_p hpl2 (i := a)) (fun v21 w21 D21 => ?_)
            obtain ⟨rfl, N21, U21⟩ := D21
            replace own_p := own_p.upd1 U21 (by first | assumption | exact Own.ne_blk own_p (by assumption) (by decide) | exact Own.not_loop own_p (by assumption) (by assumption) | exact Own.not_def own_p (by assumption))
            replace rd2 := rd2.upd1 U21 na_rd2_bp
            replace own39 := own39.upd1 U21 (by first | assumption | exact Own.ne_blk own39 (by assumption) (by decide) | exact Own.not_loop own39 (by assumption) (by assumption) | exact Own.not_def own39 (by assumption))
            replace h_bp := N21
            replace h_b10 := U21.get1 h_b10 (Ne.symm ne_bp_b10)
            replace h_bq39 := U21.get1 h_bq39 (Ne.symm ne_bp_bq39)
            replace h_b18 := U21.get1 h_b18 (Ne.symm ne_bp_b18)
            replace hF := hF.go1 U21 ge_bp
            rw [if_pos (by omega)] at h_bp
            refine drawn_S (S := no) (fun w22 U22 => ?_)
            replace own_p := own_p.upd0 U22
            replace rd2 := rd2.upd0 U22
            replace own39 := own39.upd0 U22
            replace h_bp := U22.get0 h_bp
            replace h_b10 := U22.get0 h_b10
            replace h_bq39 := U22.get0 h_bq39
            replace h_b18 := U22.get0 h_b18
            replace hF := hF.go0 U22
            refine qop_call (fun w' hw' => by have h_bp := hw'.get0 h_bp; have own_p := own_p.upd0 hw'; exact c_Plane_At h_bp own_p hpl2 (i := a)) ?_
            refine qop_run (fun w' hw' => (fieldAt_eq (off := 3) (by kernel_rfl))) ?_
            refine qop_run (fun w' hw' => by have h_b10 := hw'.get0 h_b10; exact (ldA (n := 5) (cs' := (Gs.cv x9.c).toArray) (by kernel_rfl) h_b10 (by first | exact Nat.le_of_ble_eq_true rfl | (simp; done) | omega) (by rfl))) ?_
            refine qop_F (fun w' hw' => (ne_Cell _)) (fun hne => hne (Gs.getC_new (by omega))) ?_
            refine qgdff ?_
            refine qmove ?_
            refine qgdff ?_
            refine qmove ?_
            refine qgdff ?_
            refine qop_call (fun w' hw' => by have h_bq39 := hw'.get0 h_bq39; have own39 := own39.upd0 hw'; exact c_Plane_At h_bq39 own39 hpl (i := a)) ?_
            refine qgdff ?_
            refine qop_run (fun w' hw' => by have h_b18 := hw'.get0 h_b18; exact (ldA (n := 5) (cs' := (Gs.cv (Gs.getC ps a)).toArray) (by kernel_rfl) h_b18 (by first | exact Nat.le_of_ble_eq_true rfl | (simp; done) | omega) (by rfl))) ?_
            refine qgdff ?_
            refine qop_F (fun w' hw' => (ne_Cell _)) (fun hne => hne rfl) ?_
            refine qpickf ?_
            refine qgdff ?_
            refine qmove ?_
            refine qgdff ?_
            refine qop_call (fun w' hw' => by have h_bp := hw'.get0 h_bp; have own_p := own_p.upd0 hw'; exact c_Plane_Cursor h_bp own_p hpl2) ?_
            refine qgdff ?_
            refine qmove ?_
            refine qgdff ?_
            refine qop_F (fun w' hw' => (neI _ _ _ _ _)) (fun hne => hne rfl) ?_
            refine qpickf ?_
            refine qgdff ?_
            refine qmove ?_
            refine qgdff ?_
            refine qmove ?_
            refine qgdff ?_
            refine qop_call (fun w' hw' => by have h_bp := hw'.get0 h_bp; have own_p := own_p.upd0 hw'; have h_bq39 := hw'.get0 h_bq39; have own39 := own39.upd0 hw'; exact c_plane_Same h_bp own_p hpl2 h_bq39 own39 hpl (by omega)) ?_
            refine qgdff ?_
            refine qop_run (fun w' hw' => by have h_b18 := hw'.get0 h_b18; exact (ldA (n := 5) (cs' := (Gs.cv (Gs.getC ps a)).toArray) (by kernel_rfl) h_b18 (by first | exact Nat.le_of_ble_eq_true rfl | (simp; done) | omega) (by rfl))) ?_
            refine qgdff ?_
            refine qop_run (fun w' hw' => (fieldAt_eq (off := 3) (by kernel_rfl))) ?_
            refine qgdff ?_
            refine qop_run (fun w' hw' => by have h_b10 := hw'.get0 h_b10; exact (ldA (n := 5) (cs' := (Gs.cv x9.c).toArray) (by kernel_rfl) h_b10 (by first | exact Nat.le_of_ble_eq_true rfl | (simp; done) | omega) (by rfl))) ?_
            refine qgdff ?_
            refine qop_dec (fun w' hw' => (eq_Cell _)) (fun h27 => ?_) (fun h27 => ?_)
            · refine qgdff ?_
              refine qmove ?_
              refine qgdtt ?_
              refine qmove ?_
              refine qgdtt ?_
              refine qop_call (fun w' hw' => by have h_bq39 := hw'.get0 h_bq39; have own39 := own39.upd0 hw'; exact c_Plane_Cursor h_bq39 own39 hpl) ?_
              refine qgdtt ?_
              refine qmove ?_
              refine qgdtt ?_
              refine qop_run (fun w' hw' => (eqI _ _ _ _ _)) ?_
              refine qgdff ?_
              refine qpickt ?_
              refine qgdff ?_
              refine qop_F (fun w' hw' => (neB _ _ (by kernel_rfl) _ _)) (by first | exact Gs.clone_eq (ps := ps) (a := a) (by omega) (by assumption) | exact Gs.clone_ne (ps := ps) (a := a) (by omega) (by assumption)) ?_
              refine qpickf ?_
              refine ext_intro (fun w29 U29 => ?_)
              replace own_p := own_p.upd0 U29
              replace rd2 := rd2.upd0 U29
              replace own39 := own39.upd0 U29
              replace h_bp := U29.get0 h_bp
              replace h_b10 := U29.get0 h_b10
              replace h_bq39 := U29.get0 h_bq39
              replace h_b18 := U29.get0 h_b18
              replace hF := hF.go0 U29
              refine condf ?_
              refine callF_val (c_Plane_Len h_bp own_p hpl2) (fun w30 U30 => ?_)
              replace own_p := own_p.upd0 U30
              replace rd2 := rd2.upd0 U30
              replace own39 := own39.upd0 U30
              replace h_bp := U30.get0 h_bp
              replace h_b10 := U30.get0 h_b10
              replace h_bq39 := U30.get0 h_bq39
              replace h_b18 := U30.get0 h_b18
              replace hF := hF.go0 U30
              refine loop_intro (fun g w' => ∃ (k : Nat), (g 98 = .int .i64 (k : Int)) ∧ (k ≤ N) ∧ (w'.heap[bp]? = some (.cells #[.int .i64 r, .int .i64 c, .slice (some ⟨gp, 0, none⟩) N N, .int .i64 a] 66 (0, 0))) ∧ (Own w.heap.size w' 36 5 (.slice (some ⟨gp, 0, none⟩) N N) (rows Gs.cv (Gs.setC ps a x9.c))) ∧ (w'.heap[bq39]? = some (.cells #[.int .i64 r, .int .i64 c, .slice A39 N c39, .int .i64 cur] 66 (0, 0))) ∧ (Own w.heap.size w' 36 5 (.slice A39 N c39) (rows Gs.cv ps)) ∧ (Rd w' A2 (rows Gs.ov os)) ∧ (Upd no w w')) (fun g w' => N - (RowKit.intOf (g 98)).toNat) ?_ (fun g4 wl4 hI => ?_)
              · exact ⟨0, (by first | exact g98 | rfl), Nat.zero_le _, h_bp, own_p, h_bq39, own39, rd2, hF⟩
              · obtain ⟨k, g98, hk, h_bp, own_p, h_bq39, own39, rd2, hF⟩ := hI
                try rw [g98]
                refine opv_dec (lss _ _ _ _) (fun h31 => ?_) (fun h31 => ?_)
                · refine condt ?_
                  refine opv_dec (neI _ _ _ _ _) (fun h32 => ?_) (fun h32 => ?_)
                  · refine gdtt ?_
                    refine gdtt ?_
                    refine gdtt ?_
                    refine callF_val (c_Plane_At h_bp own_p hpl2 (i := (k : Int))) (fun w33 U33 => ?_)
                    replace own_p := own_p.upd0 U33
                    replace own39 := own39.upd0 U33
                    replace rd2 := rd2.upd0 U33
                    replace h_bp := U33.get0 h_bp
                    replace h_bq39 := U33.get0 h_bq39
                    replace hF := hF.go0 U33
                    refine gdtt ?_
                    refine gdtt ?_
                    refine gdtt ?_
                    refine callF_val (c_Plane_At h_bq39 own39 hpl (i := (k : Int))) (fun w34 U34 => ?_)
                    replace own_p := own_p.upd0 U34
                    replace own39 := own39.upd0 U34
                    replace rd2 := rd2.upd0 U34
                    replace h_bp := U34.get0 h_bp
                    replace h_bq39 := U34.get0 h_bq39
                    replace hF := hF.go0 U34
                    refine gdtt ?_
                    refine opv_F (ne_Cell _) (fun hne => hne (Gs.getC_old (by omega) (by omega) (by assumption))) ?_
                    refine pickt ?_
                    refine condf ?_
                    first | refine opv_run (add_i64 _ (by omega)) ?_ | refine opv_run (addI _ _ _ _) ?_
                    exact ⟨⟨k + 1, (by first | exact g98 | rfl), by omega, h_bp, own_p, h_bq39, own39, rd2, hF⟩, cnt_lt (by first | rfl | exact g98) rfl (by omega)⟩
                  · refine gdft ?_
                    refine gdft ?_
                    refine gdft ?_
                    refine gdft ?_
                    refine gdft ?_
                    refine gdft ?_
                    refine gdft ?_
                    refine pickf ?_
                    refine condf ?_
                    first | refine opv_run (add_i64 _ (by omega)) ?_ | refine opv_run (addI _ _ _ _) ?_
                    exact ⟨⟨k + 1, (by first | exact g98 | rfl), by omega, h_bp, own_p, h_bq39, own39, rd2, hF⟩, cnt_lt (by first | rfl | exact g98) rfl (by omega)⟩
                · refine condf ?_
                  refine hJ3 _ _ ?_
                  exact ⟨_, _, hpl2, h_bp, own_p, rd2, hF⟩
            · refine qgdff ?_
              refine qmove ?_
              refine qgdft ?_
              refine qgdft ?_
              refine qgdft ?_
              refine qgdft ?_
              refine qgdff ?_
              refine qpickf ?_
              refine qgdff ?_
              refine qop_F (fun w' hw' => (neB _ _ (by kernel_rfl) _ _)) (by first | exact Gs.clone_eq (ps := ps) (a := a) (by omega) (by assumption) | exact Gs.clone_ne (ps := ps) (a := a) (by omega) (by assumption)) ?_
              refine qpickf ?_
              refine ext_intro (fun w35 U35 => ?_)
              replace own_p := own_p.upd0 U35
              replace rd2 := rd2.upd0 U35
              replace own39 := own39.upd0 U35
              replace h_bp := U35.get0 h_bp
              replace h_b10 := U35.get0 h_b10
              replace h_bq39 := U35.get0 h_bq39
              replace h_b18 := U35.get0 h_b18
              replace hF := hF.go0 U35
              refine condf ?_
              refine callF_val (c_Plane_Len h_bp own_p hpl2) (fun w36 U36 => ?_)
              replace own_p := own_p.upd0 U36
              replace rd2 := rd2.upd0 U36
              replace own39 := own39.upd0 U36
              replace h_bp := U36.get0 h_bp
              replace h_b10 := U36.get0 h_b10
              replace h_bq39 := U36.get0 h_bq39
              replace h_b18 := U36.get0 h_b18
              replace hF := hF.go0 U36
              refine loop_intro (fun g w' => ∃ (k : Nat), (g 98 = .int .i64 (k : Int)) ∧ (k ≤ N) ∧ (w'.heap[bp]? = some (.cells #[.int .i64 r, .int .i64 c, .slice (some ⟨gp, 0, none⟩) N N, .int .i64 a] 66 (0, 0))) ∧ (Own w.heap.size w' 36 5 (.slice (some ⟨gp, 0, none⟩) N N) (rows Gs.cv (Gs.setC ps a x9.c))) ∧ (w'.heap[bq39]? = some (.cells #[.int .i64 r, .int .i64 c, .slice A39 N c39, .int .i64 cur] 66 (0, 0))) ∧ (Own w.heap.size w' 36 5 (.slice A39 N c39) (rows Gs.cv ps)) ∧ (Rd w' A2 (rows Gs.ov os)) ∧ (Upd no w w')) (fun g w' => N - (RowKit.intOf (g 98)).toNat) ?_ (fun g5 wl5 hI => ?_)
              · exact ⟨0, (by first | exact g98 | rfl), Nat.zero_le _, h_bp, own_p, h_bq39, own39, rd2, hF⟩
              · obtain ⟨k, g98, hk, h_bp, own_p, h_bq39, own39, rd2, hF⟩ := hI
                try rw [g98]
                refine opv_dec (lss _ _ _ _) (fun h37 => ?_) (fun h37 => ?_)
                · refine condt ?_
                  refine opv_dec (neI _ _ _ _ _) (fun h38 => ?_) (fun h38 => ?_)
                  · refine gdtt ?_
                    refine gdtt ?_
                    refine gdtt ?_
                    refine callF_val (c_Plane_At h_bp own_p hpl2 (i := (k : Int))) (fun w39 U39 => ?_)
                    replace own_p := own_p.upd0 U39
                    replace own39 := own39.upd0 U39
                    replace rd2 := rd2.upd0 U39
                    replace h_bp := U39.get0 h_bp
                    replace h_bq39 := U39.get0 h_bq39
                    replace hF := hF.go0 U39
                    refine gdtt ?_
                    refine gdtt ?_
                    refine gdtt ?_
                    refine callF_val (c_Plane_At h_bq39 own39 hpl (i := (k : Int))) (fun w40 U40 => ?_)
                    replace own_p := own_p.upd0 U40
                    replace own39 := own39.upd0 U40
                    replace rd2 := rd2.upd0 U40
                    replace h_bp := U40.get0 h_bp
                    replace h_bq39 := U40.get0 h_bq39
                    replace hF := hF.go0 U40
                    refine gdtt ?_
                    refine opv_F (ne_Cell _) (fun hne => hne (Gs.getC_old (by omega) (by omega) (by assumption))) ?_
                    refine pickt ?_
                    refine condf ?_
                    first | refine opv_run (add_i64 _ (by omega)) ?_ | refine opv_run (addI _ _ _ _) ?_
                    exact ⟨⟨k + 1, (by first | exact g98 | rfl), by omega, h_bp, own_p, h_bq39, own39, rd2, hF⟩, cnt_lt (by first | rfl | exact g98) rfl (by omega)⟩
                  · refine gdft ?_
                    refine gdft ?_
                    refine gdft ?_
                    refine gdft ?_
                    refine gdft ?_
                    refine gdft ?_
                    refine gdft ?_
                    refine pickf ?_
                    refine condf ?_
                    first | refine opv_run (add_i64 _ (by omega)) ?_ | refine opv_run (addI _ _ _ _) ?_
                    exact ⟨⟨k + 1, (by first | exact g98 | rfl), by omega, h_bp, own_p, h_bq39, own39, rd2, hF⟩, cnt_lt (by first | rfl | exact g98) rfl (by omega)⟩
                · refine condf ?_
                  refine hJ3 _ _ ?_
                  exact ⟨_, _, hpl2, h_bp, own_p, rd2, hF⟩
          · obtain ⟨ps, cur, hpl, h_bp, own_p, rd2, hF⟩ := hI
            first | refine opv_run (add_i64 _ (by omega)) ?_ | refine opv_run (addI _ _ _ _) ?_
            exact ⟨⟨k + 1, _, _, (by first | exact g34 | rfl), by omega, hpl, h_bp, own_p, rd2, hF⟩, cnt_lt (by first | rfl | exact g34) rfl (by omega)⟩
        · refine condf ?_
          refine hJ1 _ _ ?_
          exact hF
    · have hF := hI
      exact ⟨rfl, hF⟩

/-- greenscreen/greenscreenlaw14.PlaneFinds -/
theorem c_PlaneFinds_0 {r c : Int} {A : Option Addr} {n cp : Nat} {N : Nat} {cs : List Gs.Cell} {w : World} (rd1 : Rd w A (rows Gs.cv cs)) (hn : n = cs.length) (hnm : n ≤ 9223372036854775807){page i j : Int} (hz : Gs.cellsN r c = 0) :
    Calls Tryd.prog 5 #[.agg #[.int .i64 r, .int .i64 c], .slice A n cp, .int .i64 page, .int .i64 i, .int .i64 j] w fun e w' => e = .returned (.bool true) ∧ Upd no w w' := by
  refine F5.calls ?_
  unfold F5
  have lt_rd1 := Rd.lt rd1
  have hF : Upd no w w := Fr.refl _ _ _
  refine box_intro (by rfl) (fun b1 w1 e1 h_b1 _ U1 => ?_)
  have na_rd1_b1 := rd1.apart e1
  have ge_b1 : w.heap.size ≤ b1 := by have := hF.size; omega
  replace rd1 := rd1.upd0 U1
  replace hF := hF.go0 U1
  clear e1
  refine callF_T (c_law14_alive) (rfl) (fun w2 U2 => ?_)
  replace rd1 := rd1.upd0 U2
  replace h_b1 := U2.get0 h_b1
  replace hF := hF.go0 U2
  refine opv_run (notT) ?_
  refine condf ?_
  refine opv_run (ldA (n := 2) (by kernel_rfl) h_b1 (by first | exact Nat.le_of_ble_eq_true rfl | (simp; done) | omega) (by rfl)) ?_
  refine callF_ex (c_made_0 rd1 hn hnm hz) (fun v3 w3 D3 => ?_)
  obtain ⟨xa, xb, xc, xd, xe, xf, rfl, U3⟩ := D3
  replace rd1 := rd1.upd0 U3
  replace h_b1 := U3.get0 h_b1
  replace hF := hF.go0 U3
  refine opv_run (ext_t (by rfl)) ?_
  refine opv_run (ext_t (by rfl)) ?_
  refine opv_run (ext_t (by rfl)) ?_
  refine alloc_intro (cs := #[.int .i64 0, .int .i64 0, .slice none 0 0, .int .i64 0]) (by kernel_rfl) (fun b4 w4 e4 h_b4 _ U4 => ?_)
  have na_rd1_b4 := rd1.apart e4
  have ne_b1_b4 : b1 ≠ b4 := by have := lt_get h_b1; omega
  have ge_b4 : w.heap.size ≤ b4 := by have := hF.size; omega
  replace rd1 := rd1.upd0 U4
  replace h_b1 := U4.get0 h_b1
  replace hF := hF.go0 U4
  clear e4
  refine store_intro (n := 4) (cs' := #[.int .i64 xa, .int .i64 xb, .slice xd xe xf, .int .i64 xc]) (by kernel_rfl) (by rfl) (by first | rfl | (simp [Value.cells, Value.oneCell', Gs.cv, Gs.ov]; done)) h_b4 (by first | exact Nat.le_of_ble_eq_true rfl | (simp; done) | omega) (by rfl) (fun w5 N5 _ U5 => ?_)
  replace rd1 := rd1.upd1 U5 na_rd1_b4
  replace h_b1 := U5.get1 h_b1 ne_b1_b4
  replace h_b4 := N5
  replace hF := hF.go1 U5 ge_b4
  refine opv_run (notF) ?_
  refine condt ?_
  exact ⟨rfl, hF⟩

/-- greenscreen/greenscreenlaw14.PlaneFinds -/
theorem c_PlaneFinds_big {r c : Int} {A : Option Addr} {n cp : Nat} {N : Nat} {cs : List Gs.Cell} {w : World} (rd1 : Rd w A (rows Gs.cv cs)) (hn : n = cs.length) (hnm : n ≤ 9223372036854775807){page i j : Int} (hN : Gs.cellsN r c = N) (hz : 200 < N) :
    Calls Tryd.prog 5 #[.agg #[.int .i64 r, .int .i64 c], .slice A n cp, .int .i64 page, .int .i64 i, .int .i64 j] w fun e w' => e = .returned (.bool true) ∧ Upd no w w' := by
  refine F5.calls ?_
  unfold F5
  have lt_rd1 := Rd.lt rd1
  have hF : Upd no w w := Fr.refl _ _ _
  refine box_intro (by rfl) (fun b1 w1 e1 h_b1 _ U1 => ?_)
  have na_rd1_b1 := rd1.apart e1
  have ge_b1 : w.heap.size ≤ b1 := by have := hF.size; omega
  replace rd1 := rd1.upd0 U1
  replace hF := hF.go0 U1
  clear e1
  refine callF_T (c_law14_alive) (rfl) (fun w2 U2 => ?_)
  replace rd1 := rd1.upd0 U2
  replace h_b1 := U2.get0 h_b1
  replace hF := hF.go0 U2
  refine opv_run (notT) ?_
  refine condf ?_
  refine opv_run (ldA (n := 2) (by kernel_rfl) h_b1 (by first | exact Nat.le_of_ble_eq_true rfl | (simp; done) | omega) (by rfl)) ?_
  refine callF_ex (c_made_big rd1 hn hnm hN hz) (fun v3 w3 D3 => ?_)
  obtain ⟨xa, xb, xc, xd, xe, xf, rfl, U3⟩ := D3
  replace rd1 := rd1.upd0 U3
  replace h_b1 := U3.get0 h_b1
  replace hF := hF.go0 U3
  refine opv_run (ext_t (by rfl)) ?_
  refine opv_run (ext_t (by rfl)) ?_
  refine opv_run (ext_t (by rfl)) ?_
  refine alloc_intro (cs := #[.int .i64 0, .int .i64 0, .slice none 0 0, .int .i64 0]) (by kernel_rfl) (fun b4 w4 e4 h_b4 _ U4 => ?_)
  have na_rd1_b4 := rd1.apart e4
  have ne_b1_b4 : b1 ≠ b4 := by have := lt_get h_b1; omega
  have ge_b4 : w.heap.size ≤ b4 := by have := hF.size; omega
  replace rd1 := rd1.upd0 U4
  replace h_b1 := U4.get0 h_b1
  replace hF := hF.go0 U4
  clear e4
  refine store_intro (n := 4) (cs' := #[.int .i64 xa, .int .i64 xb, .slice xd xe xf, .int .i64 xc]) (by kernel_rfl) (by rfl) (by first | rfl | (simp [Value.cells, Value.oneCell', Gs.cv, Gs.ov]; done)) h_b4 (by first | exact Nat.le_of_ble_eq_true rfl | (simp; done) | omega) (by rfl) (fun w5 N5 _ U5 => ?_)
  replace rd1 := rd1.upd1 U5 na_rd1_b4
  replace h_b1 := U5.get1 h_b1 ne_b1_b4
  replace h_b4 := N5
  replace hF := hF.go1 U5 ge_b4
  refine opv_run (notF) ?_
  refine condt ?_
  exact ⟨rfl, hF⟩

/-- greenscreen/greenscreenlaw14.PlaneFinds -/
theorem c_PlaneFinds_ok {r c : Int} {A : Option Addr} {n cp : Nat} {N : Nat} {cs : List Gs.Cell} {w : World} (rd1 : Rd w A (rows Gs.cv cs)) (hn : n = cs.length) (hnm : n ≤ 9223372036854775807){page i j : Int} (hcw : Gs.Cws cs) (hN : Gs.cellsN r c = N) (hz : N ≠ 0) (hz2 : N ≤ 200) :
    Calls Tryd.prog 5 #[.agg #[.int .i64 r, .int .i64 c], .slice A n cp, .int .i64 page, .int .i64 i, .int .i64 j] w fun e w' => e = .returned (.bool true) ∧ Upd no w w' := by
  refine F5.calls ?_
  unfold F5
  have hcp := Gs.cells_pos (r := r) (c := c) (by omega)
  have lt_rd1 := Rd.lt rd1
  have hF : Upd no w w := Fr.refl _ _ _
  refine box_intro (by rfl) (fun b1 w1 e1 h_b1 _ U1 => ?_)
  have na_rd1_b1 := rd1.apart e1
  have ge_b1 : w.heap.size ≤ b1 := by have := hF.size; omega
  replace rd1 := rd1.upd0 U1
  replace hF := hF.go0 U1
  clear e1
  refine callF_T (c_law14_alive) (rfl) (fun w2 U2 => ?_)
  replace rd1 := rd1.upd0 U2
  replace h_b1 := U2.get0 h_b1
  replace hF := hF.go0 U2
  refine opv_run (notT) ?_
  refine condf ?_
  refine opv_run (ldA (n := 2) (by kernel_rfl) h_b1 (by first | exact Nat.le_of_ble_eq_true rfl | (simp; done) | omega) (by rfl)) ?_
  refine callF_ex (c_made_ok rd1 hn hnm hN hz hz2) (fun v3 w3 D3 => ?_)
  obtain ⟨bp, gp, gx, rfl, gbp, h_bp, own_p, own_x, npx, U3⟩ := D3
  have na_rd1_bp := (Rd.lt rd1).ne (b := bp) (by omega)
  have ne_b1_bp : b1 ≠ bp := by have := lt_get h_b1; omega
  have ge_bp : w.heap.size ≤ bp := by have := hF.size; omega
  have nx3_rd1_own_p : _ ∨ ∀ k, blkOf _ k → ¬ ownS _ k := (Rd.lt rd1).imp_right fun h k hk hs => by have := h k hk; have := (Own.ge own_p hs).1; omega
  have nx3_h_b1_own_p : ¬ ownS _ b1 := fun h => by have := (Own.ge own_p h).1; have := lt_get h_b1; omega
  replace own_p := own_p.mono (B' := w.heap.size) hF.size
  have nx3_rd1_own_x : _ ∨ ∀ k, blkOf _ k → ¬ ownS _ k := (Rd.lt rd1).imp_right fun h k hk hs => by have := h k hk; have := (Own.ge own_x hs).1; omega
  have nx3_h_b1_own_x : ¬ ownS _ b1 := fun h => by have := (Own.ge own_x h).1; have := lt_get h_b1; omega
  replace own_x := own_x.mono (B' := w.heap.size) hF.size
  replace rd1 := rd1.upd0 U3
  replace h_b1 := U3.get0 h_b1
  replace hF := hF.go0 U3
  obtain ⟨ps, hps⟩ : ∃ ps, ps = Gs.madeK N cs cs.length := ⟨_, rfl⟩
  rw [← hps] at own_p own_x
  have hpl : N = ps.length := by rw [hps, Gs.made_len]
  have hpw : Gs.Cws ps := by rw [hps]; exact Gs.made_w hcw _
  clear hps
  refine opv_run (ext_t (by rfl)) ?_
  refine opv_run (ext_t (by rfl)) ?_
  refine opv_run (ext_t (by rfl)) ?_
  refine alloc_intro (cs := #[.int .i64 0, .int .i64 0, .slice none 0 0, .int .i64 0]) (by kernel_rfl) (fun b4 w4 e4 h_b4 _ U4 => ?_)
  have na_rd1_b4 := rd1.apart e4
  have ne_b1_b4 : b1 ≠ b4 := by have := lt_get h_b1; omega
  have ne_bp_b4 : bp ≠ b4 := by have := lt_get h_bp; omega
  have na_own_p_b4 := own_p.apart e4
  have na_own_x_b4 := own_x.apart e4
  have ge_b4 : w.heap.size ≤ b4 := by have := hF.size; omega
  replace rd1 := rd1.upd0 U4
  replace own_p := own_p.upd0 U4
  replace own_x := own_x.upd0 U4
  replace h_b1 := U4.get0 h_b1
  replace h_bp := U4.get0 h_bp
  replace hF := hF.go0 U4
  clear e4
  refine store_intro (n := 4) (cs' := #[.int .i64 r, .int .i64 c, .slice (some ⟨gx, 0, none⟩) N N, .int .i64 0]) (by kernel_rfl) (by rfl) (by first | rfl | (simp [Value.cells, Value.oneCell', Gs.cv, Gs.ov]; done)) h_b4 (by first | exact Nat.le_of_ble_eq_true rfl | (simp; done) | omega) (by rfl) (fun w5 N5 _ U5 => ?_)
  replace rd1 := rd1.upd1 U5 na_rd1_b4
  replace own_p := own_p.upd1 U5 na_own_p_b4
  replace own_x := own_x.upd1 U5 na_own_x_b4
  replace h_b1 := U5.get1 h_b1 ne_b1_b4
  replace h_bp := U5.get1 h_bp ne_bp_b4
  replace h_b4 := N5
  replace hF := hF.go1 U5 ge_b4
  refine opv_run (notT) ?_
  refine condf ?_
  refine join_cut (fun g w' => (g 14 = .string (Gs.textOf page ps 0 N)) ∧ (w'.heap[bp]? = some (.cells #[.int .i64 r, .int .i64 c, .slice (some ⟨gp, 0, none⟩) N N, .int .i64 0] 66 (0, 0))) ∧ (Own w.heap.size w' 36 5 (.slice (some ⟨gp, 0, none⟩) N N) (rows Gs.cv ps)) ∧ (Upd no w w')) (fun J1 hJ1 => ?_) (fun gJ1 wJ1 hI => ?_)
  · refine callF_ex (c_Plane_Rows h_bp own_p hpl (page := page) hpw (by omega) (by omega) (by omega) (by omega)) (fun v6 w6 D6 => ?_)
    obtain ⟨own33, U6⟩ := D6
    have nx6_rd1_own33 : _ ∨ ∀ k, blkOf _ k → ¬ ownS _ k := (Rd.lt rd1).imp_right fun h k hk hs => by have := h k hk; have := (Own.ge own33 hs).1; omega
    have nx6_h_b1_own33 : ¬ ownS _ b1 := fun h => by have := (Own.ge own33 h).1; have := lt_get h_b1; omega
    have nx6_h_bp_own33 : ¬ ownS _ bp := fun h => by have := (Own.ge own33 h).1; have := lt_get h_bp; omega
    have nx6_own_p_own33 : ∀ k, ownS _ k → ¬ ownS _ k := fun k hk hs => by have := (Own.ge own_p hk).2; have := (Own.ge own33 hs).1; omega
    have nx6_own_x_own33 : ∀ k, ownS _ k → ¬ ownS _ k := fun k hk hs => by have := (Own.ge own_x hk).2; have := (Own.ge own33 hs).1; omega
    have nx6_h_b4_own33 : ¬ ownS _ b4 := fun h => by have := (Own.ge own33 h).1; have := lt_get h_b4; omega
    replace own33 := own33.mono (B' := w.heap.size) hF.size
    replace rd1 := rd1.upd0 U6
    replace own_p := own_p.upd0 U6
    replace own_x := own_x.upd0 U6
    replace h_b1 := U6.get0 h_b1
    replace h_bp := U6.get0 h_bp
    replace h_b4 := U6.get0 h_b4
    replace hF := hF.go0 U6
    replace own33 := own33.mono (B' := w.heap.size) (by have := hF.size; omega)
    obtain ⟨A33, n33, c33, rfl, hl33, rd33⟩ := own33.rd
    rw [Gs.strs_len, Gs.rowsL_len] at hl33
    have hrs := Gs.rows_size (page := page) (c := c) (ps := ps) (n := r.toNat) (k := 0) (by omega)
    refine opv_run (len_sl (by kernel_rfl) _ _ _) ?_
    refine loop_intro (fun g w' => ∃ (k : Nat), (g 35 = .int .i64 (k : Int)) ∧ (k ≤ r.toNat) ∧ (g 14 = .string (Gs.joinB ((Gs.rowsL page c ps r.toNat).take k))) ∧ (Own w.heap.size w' 9 1 (.slice A33 n33 c33) (Gs.strs (Gs.rowsL page c ps r.toNat))) ∧ (w'.heap[bp]? = some (.cells #[.int .i64 r, .int .i64 c, .slice (some ⟨gp, 0, none⟩) N N, .int .i64 0] 66 (0, 0))) ∧ (Own w.heap.size w' 36 5 (.slice (some ⟨gp, 0, none⟩) N N) (rows Gs.cv ps)) ∧ (Upd no w w')) (fun g w' => r.toNat - (RowKit.intOf (g 35)).toNat) ?_ (fun g2 wl2 hI => ?_)
    · exact ⟨0, (by first | exact g35 | rfl), Nat.zero_le _, rfl, own33, h_bp, own_p, hF⟩
    · obtain ⟨k, g35, hk, g14, own33, h_bp, own_p, hF⟩ := hI
      try rw [g35]
      try rw [g14]
      have hrk := (Gs.rows_size (page := page) (c := c) (ps := ps) (n := r.toNat) (k := k) (by omega)).1
      refine opv_dec (lss _ _ _ _) (fun h7 => ?_) (fun h7 => ?_)
      · refine condt ?_
        refine idx_strs (by kernel_rfl) (by kernel_rfl) own33.rdS (by first | rfl | assumption | omega | (simp only [Gs.rowsL_len]; omega)) (by omega) (by omega) (fun x8 hx8 => ?_)
        try simp only [Int.toNat_natCast] at hx8
        have hxs := hrs.2 _ (List.mem_of_getElem? hx8)
        refine opv_run (addS (by first | assumption | omega | (simp only [str_size, List.length_append, List.length_cons, List.length_nil]; omega) | simp [*])) ?_
        first | refine opv_run (add_i64 _ (by omega)) ?_ | refine opv_run (addI _ _ _ _) ?_
        exact ⟨⟨k + 1, (by first | exact g35 | rfl), by omega, (by rw [← Gs.joinB_step hx8]; rfl), own33, h_bp, own_p, hF⟩, cnt_lt (by first | rfl | exact g35) rfl (by omega)⟩
      · refine condf ?_
        refine hJ1 _ _ ?_
        exact ⟨(by first | exact g14 | (rw [← Gs.rows_all (page := page) (r := r) (c := c) hpl (by omega) (by omega) (hcp.2.2.2.2.symm.trans hN) hz]; rw [show k = (Gs.rowsL page c ps r.toNat).length by (rw [Gs.rowsL_len]; omega), List.take_length] at g14; exact g14)), h_bp, own_p, hF⟩
  · obtain ⟨g14, h_bp, own_p, hF⟩ := hI
    try rw [g14]
    refine callF_val (c_Plane_Len h_bp own_p hpl) (fun w9 U9 => ?_)
    replace own_p := own_p.upd0 U9
    replace h_bp := U9.get0 h_bp
    replace hF := hF.go0 U9
    refine callF_val (c_Plane_Text h_bp own_p hpl (page := page) (f := 0) (m := N) hpw (by omega) (by omega)) (fun w10 U10 => ?_)
    replace own_p := own_p.upd0 U10
    replace h_bp := U10.get0 h_bp
    replace hF := hF.go0 U10
    refine opv_F (neS _ _ _ _) (fun hne => hne rfl) ?_
    refine condf ?_
    refine opv_run (and_4095 _ _) ?_
    refine callF_val (c_Plane_Len h_bp own_p hpl) (fun w11 U11 => ?_)
    replace own_p := own_p.upd0 U11
    replace h_bp := U11.get0 h_bp
    replace hF := hF.go0 U11
    refine opv_run (remN _ (by omega) (by omega) (by omega)) ?_
    refine opv_run (and_255 _ _) ?_
    refine callF_val (c_Plane_Len h_bp own_p hpl) (fun w12 U12 => ?_)
    replace own_p := own_p.upd0 U12
    replace h_bp := U12.get0 h_bp
    replace hF := hF.go0 U12
    first | refine opv_run (add_i64 _ (by omega)) ?_ | refine opv_run (addI _ _ _ _) ?_
    refine opv_run (remN _ (by omega) (by omega) (by omega)) ?_
    obtain ⟨f, hf⟩ : ∃ f : Nat, (f : Int) = i % 4096 % (N : Int) := ⟨(i % 4096 % (N : Int)).toNat, Int.toNat_of_nonneg (Gs.place i hz).1⟩
    obtain ⟨m, hm⟩ : ∃ m : Nat, (m : Int) = j % 256 % ((N : Int) + 1) := ⟨(j % 256 % ((N : Int) + 1)).toNat, Int.toNat_of_nonneg (Int.emod_nonneg _ (by omega))⟩
    rw [← hf, ← hm]
    have hfN : f < ps.length := by have := (Gs.place i hz).2; omega
    have hmN : m ≤ ps.length := by have := Int.emod_lt_of_pos (j % 256) (show (0 : Int) < (N : Int) + 1 by omega); omega
    obtain ⟨a, ha1, ha2, ha3, ha4⟩ := Gs.find_part (page := page) (ps := ps) hfN hmN
    refine callF_val (c_Plane_Text h_bp own_p hpl (page := page) (f := (f : Int)) (m := (m : Int)) hpw (by omega) (by omega)) (fun w13 U13 => ?_)
    replace own_p := own_p.upd0 U13
    replace h_bp := U13.get0 h_bp
    replace hF := hF.go0 U13
    rw [Gs.text_signs hfN hmN]
    refine callF_val (c_Plane_Find h_bp own_p hpl (page := page) hpw (l := Gs.sgl page ps f m) (Gs.sgl_sgn hpw f m) (by rw [Gs.sgl_len]; omega) (by omega) (by omega)) (fun w14 U14 => ?_)
    replace own_p := own_p.upd0 U14
    replace h_bp := U14.get0 h_bp
    replace hF := hF.go0 U14
    rw [ha1]
    refine opv_F (lss _ _ _ _) (by omega) ?_
    refine gdff ?_
    refine gdff ?_
    refine gdff ?_
    refine opv_F (gtr _ _ _ _) (by omega) ?_
    refine pickf ?_
    refine gdff ?_
    refine gdff ?_
    refine gdff ?_
    refine gdff ?_
    refine gdff ?_
    refine callF_val (c_Plane_Text h_bp own_p hpl (page := page) (f := (a : Int)) (m := (m : Int)) hpw (by omega) (by omega)) (fun w15 U15 => ?_)
    replace own_p := own_p.upd0 U15
    replace h_bp := U15.get0 h_bp
    replace hF := hF.go0 U15
    refine gdff ?_
    refine gdff ?_
    refine opv_F (neS _ _ _ _) (fun hne => hne (by rw [Gs.text_signs (by omega) hmN, ha3])) ?_
    refine pickf ?_
    refine condf ?_
    refine join_cut (fun g w' => (w'.heap[bp]? = some (.cells #[.int .i64 r, .int .i64 c, .slice (some ⟨gp, 0, none⟩) N N, .int .i64 0] 66 (0, 0))) ∧ (Own w.heap.size w' 36 5 (.slice (some ⟨gp, 0, none⟩) N N) (rows Gs.cv ps)) ∧ (Upd no w w')) (fun J3 hJ3 => ?_) (fun gJ3 wJ3 hI => ?_)
    · refine loop_intro (fun g w' => ∃ (k : Nat), (g 87 = .int .i64 (k : Int)) ∧ (k ≤ a) ∧ (w'.heap[bp]? = some (.cells #[.int .i64 r, .int .i64 c, .slice (some ⟨gp, 0, none⟩) N N, .int .i64 0] 66 (0, 0))) ∧ (Own w.heap.size w' 36 5 (.slice (some ⟨gp, 0, none⟩) N N) (rows Gs.cv ps)) ∧ (Upd no w w')) (fun g w' => a - (RowKit.intOf (g 87)).toNat) ?_ (fun g4 wl4 hI => ?_)
      · exact ⟨0, (by first | exact g87 | rfl), Nat.zero_le _, h_bp, own_p, hF⟩
      · obtain ⟨k, g87, hk, h_bp, own_p, hF⟩ := hI
        try rw [g87]
        refine opv_dec (lss _ _ _ _) (fun h16 => ?_) (fun h16 => ?_)
        · refine condt ?_
          refine opv_dec (gtr _ _ _ _) (fun h17 => ?_) (fun h17 => ?_)
          · refine gdtt ?_
            refine gdtt ?_
            refine gdtt ?_
            refine gdtt ?_
            refine gdtt ?_
            refine callF_val (c_Plane_Text h_bp own_p hpl (page := page) (f := (k : Int)) (m := (m : Int)) hpw (by omega) (by omega)) (fun w18 U18 => ?_)
            replace own_p := own_p.upd0 U18
            replace h_bp := U18.get0 h_bp
            replace hF := hF.go0 U18
            refine gdtt ?_
            refine gdtt ?_
            refine opv_F (eqS _ _ _ _) (fun he => ha4 (by omega) k (by omega) ((Gs.sgn_inj (Gs.sgl_sgn hpw k m) (Gs.sgl_sgn hpw f m)).1 (by rw [← Gs.text_signs (by omega) hmN]; exact he))) ?_
            refine pickt ?_
            refine condf ?_
            first | refine opv_run (add_i64 _ (by omega)) ?_ | refine opv_run (addI _ _ _ _) ?_
            exact ⟨⟨k + 1, (by first | exact g87 | rfl), by omega, h_bp, own_p, hF⟩, cnt_lt (by first | rfl | exact g87) rfl (by omega)⟩
          · refine gdft ?_
            refine gdft ?_
            refine gdft ?_
            refine gdft ?_
            refine gdft ?_
            refine gdft ?_
            refine gdft ?_
            refine pickf ?_
            refine condf ?_
            first | refine opv_run (add_i64 _ (by omega)) ?_ | refine opv_run (addI _ _ _ _) ?_
            exact ⟨⟨k + 1, (by first | exact g87 | rfl), by omega, h_bp, own_p, hF⟩, cnt_lt (by first | rfl | exact g87) rfl (by omega)⟩
        · refine condf ?_
          refine hJ3 _ _ ?_
          exact ⟨h_bp, own_p, hF⟩
    · obtain ⟨h_bp, own_p, hF⟩ := hI
      have hts := Gs.text_size page ps 0 N
      refine opv_run (addS (by first | assumption | omega | (simp only [str_size, List.length_append, List.length_cons, List.length_nil]; omega) | simp [*])) ?_
      rw [Gs.text_x hpl hz]
      refine callF_val (c_Plane_Find h_bp own_p hpl (page := page) hpw (l := Gs.sgl page ps 0 N ++ [120]) (Gs.x_sgn hpw) (by rw [List.length_append, Gs.sgl_len]; simp; omega) (by omega) (by omega)) (fun w19 U19 => ?_)
      replace own_p := own_p.upd0 U19
      replace h_bp := U19.get0 h_bp
      replace hF := hF.go0 U19
      refine opv_T (eqI _ _ _ _ _) (Gs.x_none hpl) ?_
      exact ⟨rfl, hF⟩

end Go.Proofs.YtojcbhkhfcddnaaDoor
