/-
  Contracts of functions of the program, walked over their shallow forms. No condition but the ones that each states.
-/
import Derived.Test.YtojcbhkhfcddnaaFi
import Derived.Test.YtojcbhkhfcddnaaFieldLaws3
namespace Go.Proofs.Ytojcbhkhfcddnaa
open Go Go.Sh
set_option linter.unusedVariables false
set_option maxRecDepth 100000


/-- greenscreen/greenscreenlaw15.FieldLooks -/
theorem c_FieldLooks_0 {r c : Int} {A : Option Addr} {n cp : Nat} {N : Nat} {cs : List Gs.Cell} {w : World} (rd1 : Rd w A (rows Gs.cv cs)) (hn : n = cs.length) (hnm : n ≤ 9223372036854775807){page i m : Int} (hz : Gs.cellsN r c = 0) :
    Calls Try.prog 3 #[.agg #[.int .i64 r, .int .i64 c], .slice A n cp, .int .i64 page, .int .i64 i, .int .i64 m] w fun e w' => e = .returned (.bool true) ∧ Upd no w w' := by
  refine F3.calls ?_
  unfold F3
  have lt_rd1 := Rd.lt rd1
  have hF : Upd no w w := Fr.refl _ _ _
  refine box_intro (by rfl) (fun b1 w1 e1 h_b1 _ U1 => ?_)
  have na_rd1_b1 := rd1.apart e1
  have ge_b1 : w.heap.size ≤ b1 := by have := hF.size; omega
  replace rd1 := rd1.upd0 U1
  replace hF := hF.go0 U1
  clear e1
  refine callF_T (c_law15_alive) (rfl) (fun w2 U2 => ?_)
  replace rd1 := rd1.upd0 U2
  replace h_b1 := U2.get0 h_b1
  replace hF := hF.go0 U2
  refine opv_run (notT) ?_
  refine condf ?_
  refine opv_run (ldA (n := 2) (by kernel_rfl) h_b1 (by first | exact Nat.le_of_ble_eq_true rfl | (simp; done) | omega) (by rfl)) ?_
  refine callF_ex (c_made_0 rd1 hn hnm hz) (fun v3 w3 D3 => ?_)
  obtain ⟨xa, xb, xc, xd, xe, xf, rfl, U3⟩ := D3
  replace rd1 := rd1.upd0 U3
  replace h_b1 := U3.get0 h_b1
  replace hF := hF.go0 U3
  refine opv_run (ext_t (by rfl)) ?_
  refine opv_run (ext_t (by rfl)) ?_
  refine opv_run (ext_t (by rfl)) ?_
  refine alloc_intro (cs := #[.int .i64 0, .int .i64 0, .slice none 0 0, .int .i64 0]) (by kernel_rfl) (fun b4 w4 e4 h_b4 _ U4 => ?_)
  have na_rd1_b4 := rd1.apart e4
  have ne_b1_b4 : b1 ≠ b4 := by have := lt_get h_b1; omega
  have ge_b4 : w.heap.size ≤ b4 := by have := hF.size; omega
  replace rd1 := rd1.upd0 U4
  replace h_b1 := U4.get0 h_b1
  replace hF := hF.go0 U4
  clear e4
  refine store_intro (n := 4) (cs' := #[.int .i64 xa, .int .i64 xb, .slice xd xe xf, .int .i64 xc]) (by kernel_rfl) (by rfl) (by first | rfl | (simp [Value.cells, Value.oneCell', Gs.cv, Gs.fv]; done)) h_b4 (by first | exact Nat.le_of_ble_eq_true rfl | (simp; done) | omega) (by rfl) (fun w5 N5 _ U5 => ?_)
  replace rd1 := rd1.upd1 U5 na_rd1_b4
  replace h_b1 := U5.get1 h_b1 ne_b1_b4
  replace h_b4 := N5
  replace hF := hF.go1 U5 ge_b4
  refine opv_run (notF) ?_
  refine condt ?_
  exact ⟨rfl, hF⟩

/-- greenscreen/greenscreenlaw15.FieldLooks -/
theorem c_FieldLooks_big {r c : Int} {A : Option Addr} {n cp : Nat} {N : Nat} {cs : List Gs.Cell} {w : World} (rd1 : Rd w A (rows Gs.cv cs)) (hn : n = cs.length) (hnm : n ≤ 9223372036854775807){page i m : Int} (hN : Gs.cellsN r c = N) (hz : 120 < N) :
    Calls Try.prog 3 #[.agg #[.int .i64 r, .int .i64 c], .slice A n cp, .int .i64 page, .int .i64 i, .int .i64 m] w fun e w' => e = .returned (.bool true) ∧ Upd no w w' := by
  refine F3.calls ?_
  unfold F3
  have lt_rd1 := Rd.lt rd1
  have hF : Upd no w w := Fr.refl _ _ _
  refine box_intro (by rfl) (fun b1 w1 e1 h_b1 _ U1 => ?_)
  have na_rd1_b1 := rd1.apart e1
  have ge_b1 : w.heap.size ≤ b1 := by have := hF.size; omega
  replace rd1 := rd1.upd0 U1
  replace hF := hF.go0 U1
  clear e1
  refine callF_T (c_law15_alive) (rfl) (fun w2 U2 => ?_)
  replace rd1 := rd1.upd0 U2
  replace h_b1 := U2.get0 h_b1
  replace hF := hF.go0 U2
  refine opv_run (notT) ?_
  refine condf ?_
  refine opv_run (ldA (n := 2) (by kernel_rfl) h_b1 (by first | exact Nat.le_of_ble_eq_true rfl | (simp; done) | omega) (by rfl)) ?_
  refine callF_ex (c_made_big rd1 hn hnm hN hz) (fun v3 w3 D3 => ?_)
  obtain ⟨xa, xb, xc, xd, xe, xf, rfl, U3⟩ := D3
  replace rd1 := rd1.upd0 U3
  replace h_b1 := U3.get0 h_b1
  replace hF := hF.go0 U3
  refine opv_run (ext_t (by rfl)) ?_
  refine opv_run (ext_t (by rfl)) ?_
  refine opv_run (ext_t (by rfl)) ?_
  refine alloc_intro (cs := #[.int .i64 0, .int .i64 0, .slice none 0 0, .int .i64 0]) (by kernel_rfl) (fun b4 w4 e4 h_b4 _ U4 => ?_)
  have na_rd1_b4 := rd1.apart e4
  have ne_b1_b4 : b1 ≠ b4 := by have := lt_get h_b1; omega
  have ge_b4 : w.heap.size ≤ b4 := by have := hF.size; omega
  replace rd1 := rd1.upd0 U4
  replace h_b1 := U4.get0 h_b1
  replace hF := hF.go0 U4
  clear e4
  refine store_intro (n := 4) (cs' := #[.int .i64 xa, .int .i64 xb, .slice xd xe xf, .int .i64 xc]) (by kernel_rfl) (by rfl) (by first | rfl | (simp [Value.cells, Value.oneCell', Gs.cv, Gs.fv]; done)) h_b4 (by first | exact Nat.le_of_ble_eq_true rfl | (simp; done) | omega) (by rfl) (fun w5 N5 _ U5 => ?_)
  replace rd1 := rd1.upd1 U5 na_rd1_b4
  replace h_b1 := U5.get1 h_b1 ne_b1_b4
  replace h_b4 := N5
  replace hF := hF.go1 U5 ge_b4
  refine opv_run (notF) ?_
  refine condt ?_
  exact ⟨rfl, hF⟩

set_option maxHeartbeats 4000000 in
/-- greenscreen/greenscreenlaw15.FieldLooks -/
theorem c_FieldLooks_ok {r c : Int} {A : Option Addr} {n cp : Nat} {N : Nat} {cs : List Gs.Cell} {w : World} (rd1 : Rd w A (rows Gs.cv cs)) (hn : n = cs.length) (hnm : n ≤ 9223372036854775807){page i m : Int} (hcw : Gs.Cws cs) (hN : Gs.cellsN r c = N) (hz : N ≠ 0) (hz2 : N ≤ 120) :
    Calls Try.prog 3 #[.agg #[.int .i64 r, .int .i64 c], .slice A n cp, .int .i64 page, .int .i64 i, .int .i64 m] w fun e w' => e = .returned (.bool true) ∧ Upd no w w' := by
  refine F3.calls ?_
  unfold F3
  have lt_rd1 := Rd.lt rd1
  have hF : Upd no w w := Fr.refl _ _ _
  refine box_intro (by rfl) (fun b1 w1 e1 h_b1 _ U1 => ?_)
  have na_rd1_b1 := rd1.apart e1
  have ge_b1 : w.heap.size ≤ b1 := by have := hF.size; omega
  replace rd1 := rd1.upd0 U1
  replace hF := hF.go0 U1
  clear e1
  refine callF_T (c_law15_alive) (rfl) (fun w2 U2 => ?_)
  replace rd1 := rd1.upd0 U2
  replace h_b1 := U2.get0 h_b1
  replace hF := hF.go0 U2
  refine opv_run (notT) ?_
  refine condf ?_
  refine opv_run (ldA (n := 2) (by kernel_rfl) h_b1 (by first | exact Nat.le_of_ble_eq_true rfl | (simp; done) | omega) (by rfl)) ?_
  refine callF_ex (c_made_ok rd1 hn hnm hN hz hz2) (fun v3 w3 D3 => ?_)
  obtain ⟨bp, gp, gx, rfl, gbp, h_bp, own_p, own_x, npx, U3⟩ := D3
  have na_rd1_bp := (Rd.lt rd1).ne (b := bp) (by omega)
  have ne_b1_bp : b1 ≠ bp := by have := lt_get h_b1; omega
  have ge_bp : w.heap.size ≤ bp := by have := hF.size; omega
  have nx3_rd1_own_p : _ ∨ ∀ k, blkOf _ k → ¬ ownS _ k := (Rd.lt rd1).imp_right fun h k hk hs => by have := h k hk; have := (Own.ge own_p hs).1; omega
  have nx3_h_b1_own_p : ¬ ownS _ b1 := fun h => by have := (Own.ge own_p h).1; have := lt_get h_b1; omega
  replace own_p := own_p.mono (B' := w.heap.size) hF.size
  have nx3_rd1_own_x : _ ∨ ∀ k, blkOf _ k → ¬ ownS _ k := (Rd.lt rd1).imp_right fun h k hk hs => by have := h k hk; have := (Own.ge own_x hs).1; omega
  have nx3_h_b1_own_x : ¬ ownS _ b1 := fun h => by have := (Own.ge own_x h).1; have := lt_get h_b1; omega
  replace own_x := own_x.mono (B' := w.heap.size) hF.size
  replace rd1 := rd1.upd0 U3
  replace h_b1 := U3.get0 h_b1
  replace hF := hF.go0 U3
  obtain ⟨ps, hps⟩ : ∃ ps, ps = Gs.madeK N cs cs.length := ⟨_, rfl⟩
  rw [← hps] at own_p own_x
  have hpl : N = ps.length := by rw [hps, Gs.made_len]
  have hpw : Gs.Cws ps := by rw [hps]; exact Gs.made_w hcw _
  clear hps
  have hb4 : N ≤ 4096 := by omega
  have hal := Gs.allM_len ps
  have hsl := Gs.starts_len_le ps
  refine opv_run (ext_t (by rfl)) ?_
  refine opv_run (ext_t (by rfl)) ?_
  refine opv_run (ext_t (by rfl)) ?_
  refine alloc_intro (cs := #[.int .i64 0, .int .i64 0, .slice none 0 0, .int .i64 0]) (by kernel_rfl) (fun b4 w4 e4 h_b4 _ U4 => ?_)
  have na_rd1_b4 := rd1.apart e4
  have ne_b1_b4 : b1 ≠ b4 := by have := lt_get h_b1; omega
  have ne_bp_b4 : bp ≠ b4 := by have := lt_get h_bp; omega
  have na_own_p_b4 := own_p.apart e4
  have na_own_x_b4 := own_x.apart e4
  have ge_b4 : w.heap.size ≤ b4 := by have := hF.size; omega
  replace rd1 := rd1.upd0 U4
  replace own_p := own_p.upd0 U4
  replace own_x := own_x.upd0 U4
  replace h_b1 := U4.get0 h_b1
  replace h_bp := U4.get0 h_bp
  replace hF := hF.go0 U4
  clear e4
  refine store_intro (n := 4) (cs' := #[.int .i64 r, .int .i64 c, .slice (some ⟨gx, 0, none⟩) N N, .int .i64 0]) (by kernel_rfl) (by rfl) (by first | rfl | (simp [Value.cells, Value.oneCell', Gs.cv, Gs.fv]; done)) h_b4 (by first | exact Nat.le_of_ble_eq_true rfl | (simp; done) | omega) (by rfl) (fun w5 N5 _ U5 => ?_)
  replace rd1 := rd1.upd1 U5 na_rd1_b4
  replace own_p := own_p.upd1 U5 na_own_p_b4
  replace own_x := own_x.upd1 U5 na_own_x_b4
  replace h_b1 := U5.get1 h_b1 ne_b1_b4
  replace h_bp := U5.get1 h_bp ne_bp_b4
  replace h_b4 := N5
  replace hF := hF.go1 U5 ge_b4
  refine opv_run (notT) ?_
  refine condf ?_
  refine opv_run (and_127 _ _) ?_
  first | refine opv_run (add_i64 _ (by omega)) ?_ | refine opv_run (addI _ _ _ _) ?_
  obtain ⟨m1, hm1⟩ : ∃ m1 : Int, m1 = 1 + m % 128 := ⟨_, rfl⟩
  rw [← hm1]
  have hm1b : 1 ≤ m1 ∧ m1 ≤ 128 := by omega
  clear hm1
  refine opv_run (ldA (n := 4) (cs' := #[.int .i64 r, .int .i64 c, .slice (some ⟨gx, 0, none⟩) N N, .int .i64 0]) (by kernel_rfl) h_b4 (by first | exact Nat.le_of_ble_eq_true rfl | (simp; done) | omega) (by rfl)) ?_
  refine callF_ex (c_ref15_All own_x.rdS hpl hb4 hpw) (fun v6 w6 D6 => ?_)
  obtain ⟨A43, c43, rfl, rd43, gA43, U6⟩ := D6
  have na_rd43_b1 := gA43.ne (lt_get h_b1)
  have na_rd43_bp := gA43.ne (lt_get h_bp)
  have na_rd43_own_p : _ ∨ ∀ k, blkOf _ k → ¬ ownS _ k := gA43.imp_right fun h k hk hs => by have := h k hk; have := (Own.ge own_p hs).2; omega
  have na_rd43_own_x : _ ∨ ∀ k, blkOf _ k → ¬ ownS _ k := gA43.imp_right fun h k hk hs => by have := h k hk; have := (Own.ge own_x hs).2; omega
  have na_rd43_b4 := gA43.ne (lt_get h_b4)
  replace rd1 := rd1.upd0 U6
  replace own_p := own_p.upd0 U6
  replace own_x := own_x.upd0 U6
  replace h_b1 := U6.get0 h_b1
  replace h_bp := U6.get0 h_bp
  replace h_b4 := U6.get0 h_b4
  replace hF := hF.go0 U6
  refine callF_ex (c_law15_all h_bp own_p hpl (m := m1) hN hb4 hpw (by omega)) (fun v7 w7 D7 => ?_)
  obtain ⟨own46, U7⟩ := D7
  have nx7_rd1_own46 : _ ∨ ∀ k, blkOf _ k → ¬ ownS _ k := (Rd.lt rd1).imp_right fun h k hk hs => by have := h k hk; have := (Own.ge own46 hs).1; omega
  have nx7_h_b1_own46 : ¬ ownS _ b1 := fun h => by have := (Own.ge own46 h).1; have := lt_get h_b1; omega
  have nx7_h_bp_own46 : ¬ ownS _ bp := fun h => by have := (Own.ge own46 h).1; have := lt_get h_bp; omega
  have nx7_own_p_own46 : ∀ k, ownS _ k → ¬ ownS _ k := fun k hk hs => by have := (Own.ge own_p hk).2; have := (Own.ge own46 hs).1; omega
  have nx7_own_x_own46 : ∀ k, ownS _ k → ¬ ownS _ k := fun k hk hs => by have := (Own.ge own_x hk).2; have := (Own.ge own46 hs).1; omega
  have nx7_h_b4_own46 : ¬ ownS _ b4 := fun h => by have := (Own.ge own46 h).1; have := lt_get h_b4; omega
  have nx7_rd43_own46 : _ ∨ ∀ k, blkOf _ k → ¬ ownS _ k := (Rd.lt rd43).imp_right fun h k hk hs => by have := h k hk; have := (Own.ge own46 hs).1; omega
  replace own46 := own46.mono (B' := w.heap.size) hF.size
  replace rd1 := rd1.upd0 U7
  replace own_p := own_p.upd0 U7
  replace own_x := own_x.upd0 U7
  replace rd43 := rd43.upd0 U7
  replace h_b1 := U7.get0 h_b1
  replace h_bp := U7.get0 h_bp
  replace h_b4 := U7.get0 h_b4
  replace hF := hF.go0 U7
  replace own46 := own46.mono (B' := w.heap.size) (by have := hF.size; omega)
  obtain ⟨A46, c46, rfl⟩ := Own.open Gs.encF own46
  have hml : ((Gs.allM ps).take m1.toNat).length ≤ (Gs.allM ps).length := by rw [List.length_take]; omega
  refine drawn_S (S := no) (fun w8 U8 => ?_)
  replace rd1 := rd1.upd0 U8
  replace own_p := own_p.upd0 U8
  replace own_x := own_x.upd0 U8
  replace rd43 := rd43.upd0 U8
  replace own46 := own46.upd0 U8
  replace h_b1 := U8.get0 h_b1
  replace h_bp := U8.get0 h_bp
  replace h_b4 := U8.get0 h_b4
  replace hF := hF.go0 U8
  refine qop_call (fun w' hw' => by have h_bp := hw'.get0 h_bp; have own_p := own_p.upd0 hw'; exact c_field_Formatted h_bp own_p hpl hN hb4) ?_
  refine qop_run (fun w' hw' => (len_sl (by kernel_rfl) _ _ _)) ?_
  refine qop_run (fun w' hw' => (gtr _ _ _ _)) ?_
  refine qop_F (fun w' hw' => (neB _ _ (by kernel_rfl) _ _)) (fun hne => hne (Gs.fmt_eq (by omega))) ?_
  refine qgdff ?_
  refine qmove ?_
  refine qgdff ?_
  refine qop_run (fun w' hw' => (len_sl (by kernel_rfl) _ _ _)) ?_
  refine qgdff ?_
  refine qmove ?_
  refine qgdff ?_
  refine qmove ?_
  refine qgdff ?_
  refine qop_run (fun w' hw' => (len_sl (by kernel_rfl) _ _ _)) ?_
  refine qgdff ?_
  refine qop_run (fun w' hw' => (minI _ _ _ _ _)) ?_
  refine qgdff ?_
  refine qop_F (fun w' hw' => (neI _ _ _ _ _)) (fun hne => hne (by rw [List.length_take]; omega)) ?_
  refine qpickf ?_
  refine qgdff ?_
  refine qmove ?_
  refine qgdff ?_
  refine qop_call (fun w' hw' => by have h_bp := hw'.get0 h_bp; have own_p := own_p.upd0 hw'; exact c_field_Home h_bp own_p hpl hN hb4 hpw) ?_
  refine qgdff ?_
  refine qop_run (fun w' hw' => by have h_b4 := hw'.get0 h_b4; exact (ldA (n := 4) (cs' := #[.int .i64 r, .int .i64 c, .slice (some ⟨gx, 0, none⟩) N N, .int .i64 0]) (by kernel_rfl) h_b4 (by first | exact Nat.le_of_ble_eq_true rfl | (simp; done) | omega) (by rfl))) ?_
  refine qgdff ?_
  refine qop_call (fun w' hw' => by have own_x := own_x.upd0 hw'; exact c_ref15_Home own_x.rdS hpl hb4 hpw) ?_
  refine qgdff ?_
  refine qop_F (fun w' hw' => (neI _ _ _ _ _)) (fun hne => hne rfl) ?_
  refine qpickf ?_
  refine ext_intro (fun w12 U12 => ?_)
  replace rd1 := rd1.upd0 U12
  replace own_p := own_p.upd0 U12
  replace own_x := own_x.upd0 U12
  replace rd43 := rd43.upd0 U12
  replace own46 := own46.upd0 U12
  replace h_b1 := U12.get0 h_b1
  replace h_bp := U12.get0 h_bp
  replace h_b4 := U12.get0 h_b4
  replace hF := hF.go0 U12
  refine condf ?_
  refine join_cut (fun g w' => (w'.heap[bp]? = some (.cells #[.int .i64 r, .int .i64 c, .slice (some ⟨gp, 0, none⟩) N N, .int .i64 0] 102 (0, 0))) ∧ (Own w.heap.size w' 45 5 (.slice (some ⟨gp, 0, none⟩) N N) (rows Gs.cv ps)) ∧ (Own w.heap.size w' 45 5 (.slice (some ⟨gx, 0, none⟩) N N) (rows Gs.cv ps)) ∧ (w'.heap[b4]? = some (.cells #[.int .i64 r, .int .i64 c, .slice (some ⟨gx, 0, none⟩) N N, .int .i64 0] 28 (0, 0))) ∧ (Upd no w w')) (fun J1 hJ1 => ?_) (fun gJ1 wJ1 hI => ?_)
  · refine opv_run (len_sl (by kernel_rfl) _ _ _) ?_
    refine loop_intro (fun g w' => ∃ (k : Nat), (g 71 = .int .i64 (k : Int)) ∧ (k ≤ ((Gs.allM ps).take m1.toNat).length) ∧ (w'.heap[bp]? = some (.cells #[.int .i64 r, .int .i64 c, .slice (some ⟨gp, 0, none⟩) N N, .int .i64 0] 102 (0, 0))) ∧ (Own w.heap.size w' 45 5 (.slice (some ⟨gp, 0, none⟩) N N) (rows Gs.cv ps)) ∧ (Own w.heap.size w' 45 5 (.slice (some ⟨gx, 0, none⟩) N N) (rows Gs.cv ps)) ∧ (w'.heap[b4]? = some (.cells #[.int .i64 r, .int .i64 c, .slice (some ⟨gx, 0, none⟩) N N, .int .i64 0] 28 (0, 0))) ∧ (Own w.heap.size w' 39 3 (.slice A46 ((Gs.allM ps).take m1.toNat).length c46) (rows Gs.fv ((Gs.allM ps).take m1.toNat))) ∧ (Rd w' A43 (rows Gs.fv (Gs.allM ps))) ∧ (Upd no w w')) (fun g w' => ((Gs.allM ps).take m1.toNat).length - (RowKit.intOf (g 71)).toNat) ?_ (fun g2 wl2 hI => ?_)
    · exact ⟨0, (by first | exact g71 | rfl), Nat.zero_le _, h_bp, own_p, own_x, h_b4, own46, rd43, hF⟩
    · obtain ⟨k, g71, hk, h_bp, own_p, own_x, h_b4, own46, rd43, hF⟩ := hI
      try rw [g71]
      refine opv_dec (lss _ _ _ _) (fun h13 => ?_) (fun h13 => ?_)
      · refine condt ?_
        refine join_cut (fun g w' => (w'.heap[bp]? = some (.cells #[.int .i64 r, .int .i64 c, .slice (some ⟨gp, 0, none⟩) N N, .int .i64 0] 102 (0, 0))) ∧ (Own w.heap.size w' 45 5 (.slice (some ⟨gp, 0, none⟩) N N) (rows Gs.cv ps)) ∧ (Own w.heap.size w' 45 5 (.slice (some ⟨gx, 0, none⟩) N N) (rows Gs.cv ps)) ∧ (w'.heap[b4]? = some (.cells #[.int .i64 r, .int .i64 c, .slice (some ⟨gx, 0, none⟩) N N, .int .i64 0] 28 (0, 0))) ∧ (Own w.heap.size w' 39 3 (.slice A46 ((Gs.allM ps).take m1.toNat).length c46) (rows Gs.fv ((Gs.allM ps).take m1.toNat))) ∧ (Rd w' A43 (rows Gs.fv (Gs.allM ps))) ∧ (Upd no w w')) (fun J3 hJ3 => ?_) (fun gJ3 wJ3 hI => ?_)
        · refine idx_rows Gs.encF (by kernel_rfl) (by kernel_rfl) own46.rdS (by first | rfl | assumption | omega) (by omega) (by omega) (fun x14 hx14 => ?_)
          try simp only [Int.toNat_natCast] at hx14
          refine alloc_intro (cs := (Gs.fv Gs.zf).toArray) (by kernel_rfl) (fun b15 w15 e15 h_b15 _ U15 => ?_)
          have ne_bp_b15 : bp ≠ b15 := by have := lt_get h_bp; omega
          have na_own_p_b15 := own_p.apart e15
          have na_own_x_b15 := own_x.apart e15
          have ne_b4_b15 : b4 ≠ b15 := by have := lt_get h_b4; omega
          have na_own46_b15 := own46.apart e15
          have na_rd43_b15 := rd43.apart e15
          have ge_b15 : w.heap.size ≤ b15 := by have := hF.size; omega
          replace own_p := own_p.upd0 U15
          replace own_x := own_x.upd0 U15
          replace own46 := own46.upd0 U15
          replace rd43 := rd43.upd0 U15
          replace h_bp := U15.get0 h_bp
          replace h_b4 := U15.get0 h_b4
          replace hF := hF.go0 U15
          clear e15
          refine store_intro (n := 3) (cs' := (Gs.fv x14).toArray) (by kernel_rfl) (by rfl) (by first | rfl | (simp [Value.cells, Value.oneCell', Gs.cv, Gs.fv]; done)) h_b15 (by first | exact Nat.le_of_ble_eq_true rfl | (simp; done) | omega) (by rfl) (fun w16 N16 _ U16 => ?_)
          replace own_p := own_p.upd1 U16 na_own_p_b15
          replace own_x := own_x.upd1 U16 na_own_x_b15
          replace own46 := own46.upd1 U16 na_own46_b15
          replace rd43 := rd43.upd1 U16 na_rd43_b15
          replace h_bp := U16.get1 h_bp ne_bp_b15
          replace h_b4 := U16.get1 h_b4 ne_b4_b15
          replace h_b15 := N16
          replace hF := hF.go1 U16 ge_b15
          refine idx_rows Gs.encF (by kernel_rfl) (by kernel_rfl) rd43 (by first | rfl | assumption | omega) (by omega) (by omega) (fun x17 hx17 => ?_)
          try simp only [Int.toNat_natCast] at hx17
          have hx2 := Gs.take_get hx14
          have hxe : x17 = x14 := Option.some.inj (hx17.symm.trans hx2)
          have hxa := Gs.all_a hpw hx2
          have hxa2 := Gs.all_a hpw hx17
          refine alloc_intro (cs := (Gs.fv Gs.zf).toArray) (by kernel_rfl) (fun b18 w18 e18 h_b18 _ U18 => ?_)
          have ne_bp_b18 : bp ≠ b18 := by have := lt_get h_bp; omega
          have na_own_p_b18 := own_p.apart e18
          have na_own_x_b18 := own_x.apart e18
          have ne_b4_b18 : b4 ≠ b18 := by have := lt_get h_b4; omega
          have na_own46_b18 := own46.apart e18
          have na_rd43_b18 := rd43.apart e18
          have ne_b15_b18 : b15 ≠ b18 := by have := lt_get h_b15; omega
          have ge_b18 : w.heap.size ≤ b18 := by have := hF.size; omega
          replace own_p := own_p.upd0 U18
          replace own_x := own_x.upd0 U18
          replace own46 := own46.upd0 U18
          replace rd43 := rd43.upd0 U18
          replace h_bp := U18.get0 h_bp
          replace h_b4 := U18.get0 h_b4
          replace h_b15 := U18.get0 h_b15
          replace hF := hF.go0 U18
          clear e18
          refine store_intro (n := 3) (cs' := (Gs.fv x17).toArray) (by kernel_rfl) (by rfl) (by first | rfl | (simp [Value.cells, Value.oneCell', Gs.cv, Gs.fv]; done)) h_b18 (by first | exact Nat.le_of_ble_eq_true rfl | (simp; done) | omega) (by rfl) (fun w19 N19 _ U19 => ?_)
          replace own_p := own_p.upd1 U19 na_own_p_b18
          replace own_x := own_x.upd1 U19 na_own_x_b18
          replace own46 := own46.upd1 U19 na_own46_b18
          replace rd43 := rd43.upd1 U19 na_rd43_b18
          replace h_bp := U19.get1 h_bp ne_bp_b18
          replace h_b4 := U19.get1 h_b4 ne_b4_b18
          replace h_b15 := U19.get1 h_b15 ne_b15_b18
          replace h_b18 := N19
          replace hF := hF.go1 U19 ge_b18
          refine opv_run (ldA (n := 4) (cs' := #[.int .i64 r, .int .i64 c, .slice (some ⟨gx, 0, none⟩) N N, .int .i64 0]) (by kernel_rfl) h_b4 (by first | exact Nat.le_of_ble_eq_true rfl | (simp; done) | omega) (by rfl)) ?_
          refine opv_run (ldA (n := 3) (cs' := (Gs.fv x17).toArray) (by kernel_rfl) h_b18 (by first | exact Nat.le_of_ble_eq_true rfl | (simp; done) | omega) (by rfl)) ?_
          refine callF_ex (c_ref15_Places own_x.rdS hpl hb4 (f := x17)) (fun v20 w20 D20 => ?_)
          obtain ⟨A82, c82, rfl, rd82, gA82, lc82, U20⟩ := D20
          have na_rd82_bp := gA82.ne (lt_get h_bp)
          have na_rd82_own_p : _ ∨ ∀ k, blkOf _ k → ¬ ownS _ k := gA82.imp_right fun h k hk hs => by have := h k hk; have := (Own.ge own_p hs).2; omega
          have na_rd82_own_x : _ ∨ ∀ k, blkOf _ k → ¬ ownS _ k := gA82.imp_right fun h k hk hs => by have := h k hk; have := (Own.ge own_x hs).2; omega
          have na_rd82_b4 := gA82.ne (lt_get h_b4)
          have na_rd82_own46 : _ ∨ ∀ k, blkOf _ k → ¬ ownS _ k := gA82.imp_right fun h k hk hs => by have := h k hk; have := (Own.ge own46 hs).2; omega
          have na_rd82_b15 := gA82.ne (lt_get h_b15)
          have na_rd82_b18 := gA82.ne (lt_get h_b18)
          replace own_p := own_p.upd0 U20
          replace own_x := own_x.upd0 U20
          replace own46 := own46.upd0 U20
          replace rd43 := rd43.upd0 U20
          replace h_bp := U20.get0 h_bp
          replace h_b4 := U20.get0 h_b4
          replace h_b15 := U20.get0 h_b15
          replace h_b18 := U20.get0 h_b18
          replace hF := hF.go0 U20
          refine buildSlice_intro (e := 5) (m := 1) (z := #[.int .u8 0]) (by kernel_rfl) (by kernel_rfl) (by rfl) (by decide) (by first | (simp [fillL, splice, repL, Value.cells, Gs.cv, Gs.fv]; done) | (simp [fillL, splice, repL, Value.cells, Gs.cv, Gs.fv]; rfl)) (fun b21 w21 e21 h_b21 _ U21 => ?_)
          have ne_bp_b21 : bp ≠ b21 := by have := lt_get h_bp; omega
          have na_own_p_b21 := own_p.apart e21
          have na_own_x_b21 := own_x.apart e21
          have ne_b4_b21 : b4 ≠ b21 := by have := lt_get h_b4; omega
          have na_own46_b21 := own46.apart e21
          have na_rd43_b21 := rd43.apart e21
          have ne_b15_b21 : b15 ≠ b21 := by have := lt_get h_b15; omega
          have ne_b18_b21 : b18 ≠ b21 := by have := lt_get h_b18; omega
          have na_rd82_b21 := rd82.apart e21
          have ge_b21 : w.heap.size ≤ b21 := by have := hF.size; omega
          replace own_p := own_p.upd0 U21
          replace own_x := own_x.upd0 U21
          replace own46 := own46.upd0 U21
          replace rd43 := rd43.upd0 U21
          replace rd82 := rd82.upd0 U21
          replace h_bp := U21.get0 h_bp
          replace h_b4 := U21.get0 h_b4
          replace h_b15 := U21.get0 h_b15
          replace h_b18 := U21.get0 h_b18
          replace hF := hF.go0 U21
          clear e21
          refine join_cut (fun g w' => ∃ (v20 : Value), (g 20 = v20) ∧ (Own w.heap.size w' 5 1 v20 (vals .u8 (Gs.dataM ps x17))) ∧ (w'.heap[bp]? = some (.cells #[.int .i64 r, .int .i64 c, .slice (some ⟨gp, 0, none⟩) N N, .int .i64 0] 102 (0, 0))) ∧ (Own w.heap.size w' 45 5 (.slice (some ⟨gp, 0, none⟩) N N) (rows Gs.cv ps)) ∧ (Own w.heap.size w' 45 5 (.slice (some ⟨gx, 0, none⟩) N N) (rows Gs.cv ps)) ∧ (w'.heap[b4]? = some (.cells #[.int .i64 r, .int .i64 c, .slice (some ⟨gx, 0, none⟩) N N, .int .i64 0] 28 (0, 0))) ∧ (Own w.heap.size w' 39 3 (.slice A46 ((Gs.allM ps).take m1.toNat).length c46) (rows Gs.fv ((Gs.allM ps).take m1.toNat))) ∧ (Rd w' A43 (rows Gs.fv (Gs.allM ps))) ∧ (Rd w' A82 (vals .i64 (Gs.placesL N x17))) ∧ (w'.heap[b15]? = some (.cells (Gs.fv x14).toArray 39 (0, 0))) ∧ (w'.heap[b18]? = some (.cells (Gs.fv x17).toArray 40 (0, 0))) ∧ (Upd no w w')) (fun J4 hJ4 => ?_) (fun gJ4 wJ4 hI => ?_)
          · refine opv_run (len_sl (by kernel_rfl) _ _ _) ?_
            refine loop_intro (fun g w' => ∃ (k2 : Nat) (v20 : Value), (g 86 = .int .i64 (k2 : Int)) ∧ (k2 ≤ (Gs.placesL N x17).length) ∧ (g 20 = v20) ∧ (Own w.heap.size w' 5 1 v20 (vals .u8 ((Gs.dataM ps x17).take k2))) ∧ (w'.heap[bp]? = some (.cells #[.int .i64 r, .int .i64 c, .slice (some ⟨gp, 0, none⟩) N N, .int .i64 0] 102 (0, 0))) ∧ (Own w.heap.size w' 45 5 (.slice (some ⟨gp, 0, none⟩) N N) (rows Gs.cv ps)) ∧ (Own w.heap.size w' 45 5 (.slice (some ⟨gx, 0, none⟩) N N) (rows Gs.cv ps)) ∧ (w'.heap[b4]? = some (.cells #[.int .i64 r, .int .i64 c, .slice (some ⟨gx, 0, none⟩) N N, .int .i64 0] 28 (0, 0))) ∧ (Own w.heap.size w' 39 3 (.slice A46 ((Gs.allM ps).take m1.toNat).length c46) (rows Gs.fv ((Gs.allM ps).take m1.toNat))) ∧ (Rd w' A43 (rows Gs.fv (Gs.allM ps))) ∧ (Rd w' A82 (vals .i64 (Gs.placesL N x17))) ∧ (w'.heap[b15]? = some (.cells (Gs.fv x14).toArray 39 (0, 0))) ∧ (w'.heap[b18]? = some (.cells (Gs.fv x17).toArray 40 (0, 0))) ∧ (∀ k, ownS (.slice (some ⟨gp, 0, none⟩) N N) k → ¬ ownS v20 k) ∧ (∀ k, ownS (.slice (some ⟨gx, 0, none⟩) N N) k → ¬ ownS v20 k) ∧ (∀ k, ownS (.slice A46 ((Gs.allM ps).take m1.toNat).length c46) k → ¬ ownS v20 k) ∧ (rows Gs.fv (Gs.allM ps) = [] ∨ ∀ k, blkOf A43 k → ¬ ownS v20 k) ∧ (vals .i64 (Gs.placesL N x17) = [] ∨ ∀ k, blkOf A82 k → ¬ ownS v20 k) ∧ (Upd no w w')) (fun g w' => (Gs.placesL N x17).length - (RowKit.intOf (g 86)).toNat) ?_ (fun g5 wl5 hI => ?_)
            · exact ⟨0, _, rfl, (Nat.zero_le _), (by first | exact g20 | rfl), (Own.of_block (n := 0) h_b21 ge_b21 rfl (by decide)), h_bp, own_p, own_x, h_b4, own46, rd43, rd82, h_b15, h_b18, (fun k hk hs => by cases hs; exact na_own_p_b21 _ hk rfl), (fun k hk hs => by cases hs; exact na_own_x_b21 _ hk rfl), (fun k hk hs => by cases hs; exact na_own46_b21 _ hk rfl), (na_rd43_b21.imp_right fun h k hk hs => by cases hs; exact h _ hk rfl), (na_rd82_b21.imp_right fun h k hk hs => by cases hs; exact h _ hk rfl), hF⟩
            · obtain ⟨k2, v20, g86, hk2, g20, own20, h_bp, own_p, own_x, h_b4, own46, rd43, rd82, h_b15, h_b18, hs1, hs2, hs3, hs4, hs5, hF⟩ := hI
              try rw [g86]
              try rw [g20]
              have hple := Gs.places_le N x17
              have hdl := Gs.data_len ps x17
              refine opv_dec (lss _ _ _ _) (fun h22 => ?_) (fun h22 => ?_)
              · refine condt ?_
                refine idx_int (by kernel_rfl) (by kernel_rfl) rd82 (by first | rfl | assumption | omega | (simp; done) | (simp [vals_length, *]; done) | (simp [vals_length] at *; omega)) (by omega) (by omega) (fun x23 hx23 => ?_)
                try simp only [Int.toNat_natCast] at hx23
                have hpg := Gs.places_get hx23
                refine opv_run (fieldAt_eq (off := 2) (by kernel_rfl)) ?_
                refine opv_run (ldC (by kernel_rfl) h_b4 (by rfl)) ?_
                refine idx_rowF (off := 0) Gs.encC (fun x => .int .u8 x.b) (fun _ => rfl) (by decide) (by kernel_rfl) (by kernel_rfl) (by kernel_rfl) own_x.rdS (by first | rfl | assumption | omega) (by omega) (by omega) (fun x24 hx24 => ?_)
                try simp only [Int.toNat_natCast] at hx24
                refine buildSlice_intro (e := 5) (m := 1) (z := #[.int .u8 0]) (by kernel_rfl) (by kernel_rfl) (by rfl) (by decide) (by first | (simp [fillL, splice, repL, Value.cells, Gs.cv, Gs.fv]; done) | (simp [fillL, splice, repL, Value.cells, Gs.cv, Gs.fv]; rfl)) (fun b25 w25 e25 h_b25 _ U25 => ?_)
                have na_own20_b25 := own20.apart e25
                have ne_bp_b25 : bp ≠ b25 := by have := lt_get h_bp; omega
                have na_own_p_b25 := own_p.apart e25
                have na_own_x_b25 := own_x.apart e25
                have ne_b4_b25 : b4 ≠ b25 := by have := lt_get h_b4; omega
                have na_own46_b25 := own46.apart e25
                have na_rd43_b25 := rd43.apart e25
                have na_rd82_b25 := rd82.apart e25
                have ne_b15_b25 : b15 ≠ b25 := by have := lt_get h_b15; omega
                have ne_b18_b25 : b18 ≠ b25 := by have := lt_get h_b18; omega
                have ge_b25 : w.heap.size ≤ b25 := by have := hF.size; omega
                replace own20 := own20.upd0 U25
                replace own_p := own_p.upd0 U25
                replace own_x := own_x.upd0 U25
                replace own46 := own46.upd0 U25
                replace rd43 := rd43.upd0 U25
                replace rd82 := rd82.upd0 U25
                replace h_bp := U25.get0 h_bp
                replace h_b4 := U25.get0 h_b4
                replace h_b15 := U25.get0 h_b15
                replace h_b18 := U25.get0 h_b18
                replace hF := hF.go0 U25
                clear e25
                refine app_introA (e := 5) (size := 1) (bytes := 1) (by kernel_rfl) own20 (Rd.of_blockL h_b25) rfl (by first | (simp [Value.oneCell']; done) | (intro u hu; simp only [List.mem_singleton] at hu; subst hu; rfl) | (simp; intros; subst_vars; rfl)) (by simp only [vals_length, List.length_take, List.length_cons, List.length_nil, List.length_append, List.length_map, List.length_range]; omega) (by have := hF.size; omega) (fun v26 w26 N26 hA26 U26 => ?_)
                have own20_o := own20
                have nb26_own_p := ap_own (S' := w25) hs1 own_p hA26
                have nb26_own_x := ap_own (S' := w25) hs2 own_x hA26
                have nb26_own46 := ap_own (S' := w25) hs3 own46 hA26
                have nb26_rd43 := ap_rd (S' := w25) hs4 rd43 hA26
                have nb26_rd82 := ap_rd (S' := w25) hs5 rd82 hA26
                replace own20 := N26
                replace h_bp := U26.get h_bp (fun h => by first | (have := Own.ge own20_o h; omega) | exact Own.ne_blk own20_o h_bp (by decide) _ h rfl | exact Own.not_loop own20_o h_bp (by assumption) _ h rfl | exact Own.not_def own20_o h_bp _ h rfl | simp_all)
                replace own_p := own_p.updS U26 hs1
                replace own_x := own_x.updS U26 hs2
                replace h_b4 := U26.get h_b4 (fun h => by first | (have := Own.ge own20_o h; omega) | exact Own.ne_blk own20_o h_b4 (by decide) _ h rfl | exact Own.not_loop own20_o h_b4 (by assumption) _ h rfl | exact Own.not_def own20_o h_b4 _ h rfl | simp_all)
                replace own46 := own46.updS U26 hs3
                replace rd43 := rd43.updS U26 hs4
                replace rd82 := rd82.updS U26 hs5
                replace h_b15 := U26.get h_b15 (fun h => by first | (have := Own.ge own20_o h; omega) | exact Own.ne_blk own20_o h_b15 (by decide) _ h rfl | exact Own.not_loop own20_o h_b15 (by assumption) _ h rfl | exact Own.not_def own20_o h_b15 _ h rfl | simp_all)
                replace h_b18 := U26.get h_b18 (fun h => by first | (have := Own.ge own20_o h; omega) | exact Own.ne_blk own20_o h_b18 (by decide) _ h rfl | exact Own.not_loop own20_o h_b18 (by assumption) _ h rfl | exact Own.not_def own20_o h_b18 _ h rfl | simp_all)
                replace h_b25 := U26.get h_b25 (fun h => na_own20_b25 _ h rfl)
                replace hF := hF.go U26 (fun i h hs => by first | exact hs | exact .inl hs | exact .inr hs | (have := (Own.ge own20_o hs).1; omega))
                clear own20_o
                first | refine opv_run (add_i64 _ (by omega)) ?_ | refine opv_run (addI _ _ _ _) ?_
                exact ⟨⟨k2 + 1, _, rfl, (by omega), (by first | exact g20 | rfl), (by rw [← Gs.data_stepR hpl hx23 hx24]; exact own_snoc own20), h_bp, own_p, own_x, h_b4, own46, rd43, rd82, h_b15, h_b18, (by assumption), (by assumption), (by assumption), (by assumption), (by assumption), hF⟩, cnt_lt (by first | exact g86 | rfl) rfl (by omega)⟩
              · refine condf ?_
                refine hJ4 _ _ ?_
                exact ⟨_, (by first | exact g20 | rfl), (by rw [List.take_of_length_le (by rw [Gs.data_len, ← hpl]; omega)] at own20; exact own20), h_bp, own_p, own_x, h_b4, own46, rd43, rd82, h_b15, h_b18, hF⟩
          · obtain ⟨v20, g20, own20, h_bp, own_p, own_x, h_b4, own46, rd43, rd82, h_b15, h_b18, hF⟩ := hI
            try rw [g20]
            obtain ⟨A20, c20, rfl, _⟩ := own20.rd1
            have hple := Gs.places_le N x17
            have hdl := Gs.data_len ps x17
            refine drawn_S (S := no) (fun w27 U27 => ?_)
            replace own20 := own20.upd0 U27
            replace own_p := own_p.upd0 U27
            replace own_x := own_x.upd0 U27
            replace own46 := own46.upd0 U27
            replace rd43 := rd43.upd0 U27
            replace rd82 := rd82.upd0 U27
            replace h_bp := U27.get0 h_bp
            replace h_b4 := U27.get0 h_b4
            replace h_b15 := U27.get0 h_b15
            replace h_b18 := U27.get0 h_b18
            replace hF := hF.go0 U27
            refine qop_run (fun w' hw' => by have h_b15 := hw'.get0 h_b15; exact (ldA (n := 3) (cs' := (Gs.fv x14).toArray) (by kernel_rfl) h_b15 (by first | exact Nat.le_of_ble_eq_true rfl | (simp; done) | omega) (by rfl))) ?_
            refine qop_run (fun w' hw' => by have h_b18 := hw'.get0 h_b18; exact (ldA (n := 3) (cs' := (Gs.fv x17).toArray) (by kernel_rfl) h_b18 (by first | exact Nat.le_of_ble_eq_true rfl | (simp; done) | omega) (by rfl))) ?_
            refine qop_F (fun w' hw' => (ne_Fld15 _)) (fun hne => hne hxe.symm) ?_
            refine qgdff ?_
            refine qmove ?_
            refine qgdff ?_
            refine qop_run (fun w' hw' => by have h_b15 := hw'.get0 h_b15; exact (ldA (n := 3) (cs' := (Gs.fv x14).toArray) (by kernel_rfl) h_b15 (by first | exact Nat.le_of_ble_eq_true rfl | (simp; done) | omega) (by rfl))) ?_
            refine qgdff ?_
            refine qmove ?_
            refine qgdff ?_
            refine qmove ?_
            refine qgdff ?_
            refine qmove ?_
            refine qgdff ?_
            refine qmove ?_
            refine qgdff ?_
            refine qop_run (fun w' hw' => (len_sl (by kernel_rfl) _ _ _)) ?_
            refine qgdff ?_
            refine qop_run (fun w' hw' => (minI _ _ _ _ _)) ?_
            refine qgdff ?_
            refine qop_run (fun w' hw' => (sliceHi (m := 1) (by kernel_rfl) (by omega) (by omega))) ?_
            refine ext_intro (fun w28 U28 => ?_)
            replace own20 := own20.upd0 U28
            replace own_p := own_p.upd0 U28
            replace own_x := own_x.upd0 U28
            replace own46 := own46.upd0 U28
            replace rd43 := rd43.upd0 U28
            replace rd82 := rd82.upd0 U28
            replace h_bp := U28.get0 h_bp
            replace h_b4 := U28.get0 h_b4
            replace h_b15 := U28.get0 h_b15
            replace h_b18 := U28.get0 h_b18
            replace hF := hF.go0 U28
            refine lop_i ?_
            refine gdff ?_
            refine callF_ex (c_law15_places h_bp own_p hpl (f := x14) (m := m1) hN hb4 (by omega)) (fun v29 w29 D29 => ?_)
            obtain ⟨own107, U29⟩ := D29
            have nx29_own20_own107 : ∀ k, ownS _ k → ¬ ownS _ k := fun k hk hs => by have := (Own.ge own20 hk).2; have := (Own.ge own107 hs).1; omega
            have nx29_h_bp_own107 : ¬ ownS _ bp := fun h => by have := (Own.ge own107 h).1; have := lt_get h_bp; omega
            have nx29_own_p_own107 : ∀ k, ownS _ k → ¬ ownS _ k := fun k hk hs => by have := (Own.ge own_p hk).2; have := (Own.ge own107 hs).1; omega
            have nx29_own_x_own107 : ∀ k, ownS _ k → ¬ ownS _ k := fun k hk hs => by have := (Own.ge own_x hk).2; have := (Own.ge own107 hs).1; omega
            have nx29_h_b4_own107 : ¬ ownS _ b4 := fun h => by have := (Own.ge own107 h).1; have := lt_get h_b4; omega
            have nx29_own46_own107 : ∀ k, ownS _ k → ¬ ownS _ k := fun k hk hs => by have := (Own.ge own46 hk).2; have := (Own.ge own107 hs).1; omega
            have nx29_rd43_own107 : _ ∨ ∀ k, blkOf _ k → ¬ ownS _ k := (Rd.lt rd43).imp_right fun h k hk hs => by have := h k hk; have := (Own.ge own107 hs).1; omega
            have nx29_rd82_own107 : _ ∨ ∀ k, blkOf _ k → ¬ ownS _ k := (Rd.lt rd82).imp_right fun h k hk hs => by have := h k hk; have := (Own.ge own107 hs).1; omega
            have nx29_h_b15_own107 : ¬ ownS _ b15 := fun h => by have := (Own.ge own107 h).1; have := lt_get h_b15; omega
            have nx29_h_b18_own107 : ¬ ownS _ b18 := fun h => by have := (Own.ge own107 h).1; have := lt_get h_b18; omega
            replace own107 := own107.mono (B' := w.heap.size) hF.size
            replace own20 := own20.upd0 U29
            replace own_p := own_p.upd0 U29
            replace own_x := own_x.upd0 U29
            replace own46 := own46.upd0 U29
            replace rd43 := rd43.upd0 U29
            replace rd82 := rd82.upd0 U29
            replace h_bp := U29.get0 h_bp
            replace h_b4 := U29.get0 h_b4
            replace h_b15 := U29.get0 h_b15
            replace h_b18 := U29.get0 h_b18
            replace hF := hF.go0 U29
            obtain ⟨A107, c107, rfl, _⟩ := own107.rd1
            refine ⟨U29, ?_⟩
            refine qgdff ?_
            have hsm : (Gs.placesL N x14).take m1.toNat = (Gs.placesL N x17).take (min m1 ((Gs.placesL N x17).length : Int)).toNat := by rw [Gs.take_min (by omega), hxe]
            refine qop_callb (fun w' hw' => by have rd82 := rd82.upd0 hw'; have own107 := own107.upd0 hw'; exact c_ref01_SameInts own107.rdS rfl (show Rd _ A82 (vals .i64 ((Gs.placesL N x17).take (min m1 ((Gs.placesL N x17).length : Int)).toNat)) from by rw [← vals_take]; exact rd82.take _) (by rw [List.length_take]; omega) (by rw [List.length_take]; omega)) (fun h30 => ?_) (fun h30 => ?_)
            · try simp only [decide_eq_true_eq, decide_eq_false_iff_not] at h30
              refine qgdff ?_
              refine qop_run (fun w' hw' => (notT)) ?_
              refine qpickf ?_
              refine qgdff ?_
              refine qmove ?_
              refine qgdff ?_
              refine qop_run (fun w' hw' => by have h_b15 := hw'.get0 h_b15; exact (ldA (n := 3) (cs' := (Gs.fv x14).toArray) (by kernel_rfl) h_b15 (by first | exact Nat.le_of_ble_eq_true rfl | (simp; done) | omega) (by rfl))) ?_
              refine qgdff ?_
              refine qmove ?_
              refine ext_intro (fun w31 U31 => ?_)
              replace own20 := own20.upd0 U31
              replace own_p := own_p.upd0 U31
              replace own_x := own_x.upd0 U31
              replace own46 := own46.upd0 U31
              replace rd43 := rd43.upd0 U31
              replace rd82 := rd82.upd0 U31
              replace own107 := own107.upd0 U31
              replace h_bp := U31.get0 h_bp
              replace h_b4 := U31.get0 h_b4
              replace h_b15 := U31.get0 h_b15
              replace h_b18 := U31.get0 h_b18
              replace hF := hF.go0 U31
              refine lop_i ?_
              refine gdff ?_
              refine callF_ex (c_field_Data h_bp own_p hpl (f := x14) hN hb4 hpw) (fun v32 w32 D32 => ?_)
              obtain ⟨own120, U32⟩ := D32
              have nx32_own20_own120 : ∀ k, ownS _ k → ¬ ownS _ k := fun k hk hs => by have := (Own.ge own20 hk).2; have := (Own.ge own120 hs).1; omega
              have nx32_h_bp_own120 : ¬ ownS _ bp := fun h => by have := (Own.ge own120 h).1; have := lt_get h_bp; omega
              have nx32_own_p_own120 : ∀ k, ownS _ k → ¬ ownS _ k := fun k hk hs => by have := (Own.ge own_p hk).2; have := (Own.ge own120 hs).1; omega
              have nx32_own_x_own120 : ∀ k, ownS _ k → ¬ ownS _ k := fun k hk hs => by have := (Own.ge own_x hk).2; have := (Own.ge own120 hs).1; omega
              have nx32_h_b4_own120 : ¬ ownS _ b4 := fun h => by have := (Own.ge own120 h).1; have := lt_get h_b4; omega
              have nx32_own46_own120 : ∀ k, ownS _ k → ¬ ownS _ k := fun k hk hs => by have := (Own.ge own46 hk).2; have := (Own.ge own120 hs).1; omega
              have nx32_rd43_own120 : _ ∨ ∀ k, blkOf _ k → ¬ ownS _ k := (Rd.lt rd43).imp_right fun h k hk hs => by have := h k hk; have := (Own.ge own120 hs).1; omega
              have nx32_rd82_own120 : _ ∨ ∀ k, blkOf _ k → ¬ ownS _ k := (Rd.lt rd82).imp_right fun h k hk hs => by have := h k hk; have := (Own.ge own120 hs).1; omega
              have nx32_h_b15_own120 : ¬ ownS _ b15 := fun h => by have := (Own.ge own120 h).1; have := lt_get h_b15; omega
              have nx32_h_b18_own120 : ¬ ownS _ b18 := fun h => by have := (Own.ge own120 h).1; have := lt_get h_b18; omega
              have nx32_own107_own120 : ∀ k, ownS _ k → ¬ ownS _ k := fun k hk hs => by have := (Own.ge own107 hk).2; have := (Own.ge own120 hs).1; omega
              replace own120 := own120.mono (B' := w.heap.size) hF.size
              replace own20 := own20.upd0 U32
              replace own_p := own_p.upd0 U32
              replace own_x := own_x.upd0 U32
              replace own46 := own46.upd0 U32
              replace rd43 := rd43.upd0 U32
              replace rd82 := rd82.upd0 U32
              replace own107 := own107.upd0 U32
              replace h_bp := U32.get0 h_bp
              replace h_b4 := U32.get0 h_b4
              replace h_b15 := U32.get0 h_b15
              replace h_b18 := U32.get0 h_b18
              replace hF := hF.go0 U32
              obtain ⟨A120, c120, rfl, _⟩ := own120.rd1
              refine ⟨U32, ?_⟩
              refine qgdff ?_
              have hsd : Gs.dataM ps x14 = Gs.dataM ps x17 := by rw [hxe]
              refine qop_callb (fun w' hw' => by have own20 := own20.upd0 hw'; have own120 := own120.upd0 hw'; exact c_ref01_Same own120.rdS rfl own20.rdS rfl (by rw [Gs.data_len, ← hpl, ← hxe]; omega)) (fun h33 => ?_) (fun h33 => ?_)
              · try simp only [decide_eq_true_eq, decide_eq_false_iff_not] at h33
                refine qgdff ?_
                refine qop_run (fun w' hw' => (notT)) ?_
                refine qpickf ?_
                refine qgdff ?_
                refine qmove ?_
                refine qgdff ?_
                refine qmove ?_
                refine qgdff ?_
                refine qop_run (fun w' hw' => by have h_b15 := hw'.get0 h_b15; exact (ldA (n := 3) (cs' := (Gs.fv x14).toArray) (by kernel_rfl) h_b15 (by first | exact Nat.le_of_ble_eq_true rfl | (simp; done) | omega) (by rfl))) ?_
                refine qgdff ?_
                refine qop_call (fun w' hw' => by have h_bp := hw'.get0 h_bp; have own_p := own_p.upd0 hw'; exact c_field_Text h_bp own_p hpl (page := page) (f := x14) hN hb4 (by omega) hpw hxa) ?_
                refine qgdff ?_
                refine qop_run (fun w' hw' => by have h_b4 := hw'.get0 h_b4; exact (ldA (n := 4) (cs' := #[.int .i64 r, .int .i64 c, .slice (some ⟨gx, 0, none⟩) N N, .int .i64 0]) (by kernel_rfl) h_b4 (by first | exact Nat.le_of_ble_eq_true rfl | (simp; done) | omega) (by rfl))) ?_
                refine qgdff ?_
                refine qmove ?_
                refine qgdff ?_
                refine qop_run (fun w' hw' => by have h_b18 := hw'.get0 h_b18; exact (ldA (n := 3) (cs' := (Gs.fv x17).toArray) (by kernel_rfl) h_b18 (by first | exact Nat.le_of_ble_eq_true rfl | (simp; done) | omega) (by rfl))) ?_
                refine qgdff ?_
                refine qop_call (fun w' hw' => by have own_x := own_x.upd0 hw'; exact c_ref15_Text own_x.rdS hpl hb4 (page := page) (f := x17) hpw hxa2) ?_
                refine qgdff ?_
                refine qop_F (fun w' hw' => (neS _ _ _ _)) (fun hne => hne (by rw [hxe])) ?_
                refine qpickf ?_
                refine ext_intro (fun w36 U36 => ?_)
                replace own20 := own20.upd0 U36
                replace own_p := own_p.upd0 U36
                replace own_x := own_x.upd0 U36
                replace own46 := own46.upd0 U36
                replace rd43 := rd43.upd0 U36
                replace rd82 := rd82.upd0 U36
                replace own107 := own107.upd0 U36
                replace own120 := own120.upd0 U36
                replace h_bp := U36.get0 h_bp
                replace h_b4 := U36.get0 h_b4
                replace h_b15 := U36.get0 h_b15
                replace h_b18 := U36.get0 h_b18
                replace hF := hF.go0 U36
                refine condf ?_
                refine hJ3 _ _ ?_
                exact ⟨h_bp, own_p, own_x, h_b4, own46, rd43, hF⟩
              · try simp only [decide_eq_true_eq, decide_eq_false_iff_not] at h33
                refine qgdff ?_
                refine qop_run (fun w' hw' => (notF)) ?_
                refine qpickf ?_
                refine qgdtf ?_
                refine qgdtf ?_
                refine qgdtf ?_
                refine qgdtf ?_
                refine qgdtf ?_
                refine qgdtf ?_
                refine qgdtf ?_
                refine qgdtf ?_
                refine qgdtf ?_
                refine qpickt ?_
                refine ext_intro (fun w37 U37 => ?_)
                replace own20 := own20.upd0 U37
                replace own_p := own_p.upd0 U37
                replace own_x := own_x.upd0 U37
                replace own46 := own46.upd0 U37
                replace rd43 := rd43.upd0 U37
                replace rd82 := rd82.upd0 U37
                replace own107 := own107.upd0 U37
                replace own120 := own120.upd0 U37
                replace h_bp := U37.get0 h_bp
                replace h_b4 := U37.get0 h_b4
                replace h_b15 := U37.get0 h_b15
                replace h_b18 := U37.get0 h_b18
                replace hF := hF.go0 U37
                refine condt ?_
                first | exact ⟨rfl, hF⟩ | exact absurd hsm (by assumption) | exact absurd hsd (by assumption)
            · try simp only [decide_eq_true_eq, decide_eq_false_iff_not] at h30
              refine qgdff ?_
              refine qop_run (fun w' hw' => (notF)) ?_
              refine qpickf ?_
              refine qgdtf ?_
              refine qgdtf ?_
              refine qgdtf ?_
              refine ext_intro (fun w39 U39 => ?_)
              replace own20 := own20.upd0 U39
              replace own_p := own_p.upd0 U39
              replace own_x := own_x.upd0 U39
              replace own46 := own46.upd0 U39
              replace rd43 := rd43.upd0 U39
              replace rd82 := rd82.upd0 U39
              replace own107 := own107.upd0 U39
              replace h_bp := U39.get0 h_bp
              replace h_b4 := U39.get0 h_b4
              replace h_b15 := U39.get0 h_b15
              replace h_b18 := U39.get0 h_b18
              replace hF := hF.go0 U39
              refine lop_i ?_
              refine gdtf ?_
              refine ⟨Fr.refl _ _ _, ?_⟩
              refine qgdtf ?_
              refine qgdtf ?_
              refine qpickt ?_
              refine qgdtf ?_
              refine qgdtf ?_
              refine qgdtf ?_
              refine qgdtf ?_
              refine qgdtf ?_
              refine qgdtf ?_
              refine qgdtf ?_
              refine qgdtf ?_
              refine qgdtf ?_
              refine qpickt ?_
              refine ext_intro (fun w40 U40 => ?_)
              replace own20 := own20.upd0 U40
              replace own_p := own_p.upd0 U40
              replace own_x := own_x.upd0 U40
              replace own46 := own46.upd0 U40
              replace rd43 := rd43.upd0 U40
              replace rd82 := rd82.upd0 U40
              replace own107 := own107.upd0 U40
              replace h_bp := U40.get0 h_bp
              replace h_b4 := U40.get0 h_b4
              replace h_b15 := U40.get0 h_b15
              replace h_b18 := U40.get0 h_b18
              replace hF := hF.go0 U40
              refine condt ?_
              first | exact ⟨rfl, hF⟩ | exact absurd hsm (by assumption) | exact absurd hsd (by assumption)
        · obtain ⟨h_bp, own_p, own_x, h_b4, own46, rd43, hF⟩ := hI
          first | refine opv_run (add_i64 _ (by omega)) ?_ | refine opv_run (addI _ _ _ _) ?_
          exact ⟨⟨k + 1, (by first | exact g71 | rfl), by omega, h_bp, own_p, own_x, h_b4, own46, rd43, hF⟩, cnt_lt (by first | rfl | exact g71) rfl (by omega)⟩
      · refine condf ?_
        refine hJ1 _ _ ?_
        exact ⟨h_bp, own_p, own_x, h_b4, hF⟩
  · obtain ⟨h_bp, own_p, own_x, h_b4, hF⟩ := hI
    refine callF_val (c_field_Of h_bp own_p hpl (i := i) hN hb4 hpw) (fun w42 U42 => ?_)
    replace own_p := own_p.upd0 U42
    replace own_x := own_x.upd0 U42
    replace h_bp := U42.get0 h_bp
    replace h_b4 := U42.get0 h_b4
    replace hF := hF.go0 U42
    refine opv_run (ext_t (by rfl)) ?_
    refine opv_run (ext_t (by rfl)) ?_
    refine alloc_intro (cs := (Gs.fv Gs.zf).toArray) (by kernel_rfl) (fun b43 w43 e43 h_b43 _ U43 => ?_)
    have ne_bp_b43 : bp ≠ b43 := by have := lt_get h_bp; omega
    have na_own_p_b43 := own_p.apart e43
    have na_own_x_b43 := own_x.apart e43
    have ne_b4_b43 : b4 ≠ b43 := by have := lt_get h_b4; omega
    have ge_b43 : w.heap.size ≤ b43 := by have := hF.size; omega
    replace own_p := own_p.upd0 U43
    replace own_x := own_x.upd0 U43
    replace h_bp := U43.get0 h_bp
    replace h_b4 := U43.get0 h_b4
    replace hF := hF.go0 U43
    clear e43
    refine store_intro (n := 3) (cs' := (Gs.fv (Gs.ofM ps i)).toArray) (by kernel_rfl) (by rfl) (by first | rfl | (simp [Value.cells, Value.oneCell', Gs.cv, Gs.fv]; done)) h_b43 (by first | exact Nat.le_of_ble_eq_true rfl | (simp; done) | omega) (by rfl) (fun w44 N44 _ U44 => ?_)
    replace own_p := own_p.upd1 U44 na_own_p_b43
    replace own_x := own_x.upd1 U44 na_own_x_b43
    replace h_bp := U44.get1 h_bp ne_bp_b43
    replace h_b4 := U44.get1 h_b4 ne_b4_b43
    replace h_b43 := N44
    replace hF := hF.go1 U44 ge_b43
    refine opv_run (ldA (n := 4) (cs' := #[.int .i64 r, .int .i64 c, .slice (some ⟨gx, 0, none⟩) N N, .int .i64 0]) (by kernel_rfl) h_b4 (by first | exact Nat.le_of_ble_eq_true rfl | (simp; done) | omega) (by rfl)) ?_
    refine callF_val (c_ref15_Of own_x.rdS hpl hb4 (i := i) hpw) (fun w45 U45 => ?_)
    replace own_p := own_p.upd0 U45
    replace own_x := own_x.upd0 U45
    replace h_bp := U45.get0 h_bp
    replace h_b4 := U45.get0 h_b4
    replace h_b43 := U45.get0 h_b43
    replace hF := hF.go0 U45
    refine opv_run (ext_t (by rfl)) ?_
    refine opv_run (ext_t (by rfl)) ?_
    refine alloc_intro (cs := (Gs.fv Gs.zf).toArray) (by kernel_rfl) (fun b46 w46 e46 h_b46 _ U46 => ?_)
    have ne_bp_b46 : bp ≠ b46 := by have := lt_get h_bp; omega
    have na_own_p_b46 := own_p.apart e46
    have na_own_x_b46 := own_x.apart e46
    have ne_b4_b46 : b4 ≠ b46 := by have := lt_get h_b4; omega
    have ne_b43_b46 : b43 ≠ b46 := by have := lt_get h_b43; omega
    have ge_b46 : w.heap.size ≤ b46 := by have := hF.size; omega
    replace own_p := own_p.upd0 U46
    replace own_x := own_x.upd0 U46
    replace h_bp := U46.get0 h_bp
    replace h_b4 := U46.get0 h_b4
    replace h_b43 := U46.get0 h_b43
    replace hF := hF.go0 U46
    clear e46
    refine store_intro (n := 3) (cs' := (Gs.fv (Gs.ofM ps i)).toArray) (by kernel_rfl) (by rfl) (by first | rfl | (simp [Value.cells, Value.oneCell', Gs.cv, Gs.fv]; done)) h_b46 (by first | exact Nat.le_of_ble_eq_true rfl | (simp; done) | omega) (by rfl) (fun w47 N47 _ U47 => ?_)
    replace own_p := own_p.upd1 U47 na_own_p_b46
    replace own_x := own_x.upd1 U47 na_own_x_b46
    replace h_bp := U47.get1 h_bp ne_bp_b46
    replace h_b4 := U47.get1 h_b4 ne_b4_b46
    replace h_b43 := U47.get1 h_b43 ne_b43_b46
    replace h_b46 := N47
    replace hF := hF.go1 U47 ge_b46
    refine join_cut (fun g w' => (g 27 = .int .i64 (Gs.befM ps i)) ∧ (w'.heap[bp]? = some (.cells #[.int .i64 r, .int .i64 c, .slice (some ⟨gp, 0, none⟩) N N, .int .i64 0] 102 (0, 0))) ∧ (Own w.heap.size w' 45 5 (.slice (some ⟨gp, 0, none⟩) N N) (rows Gs.cv ps)) ∧ (Own w.heap.size w' 45 5 (.slice (some ⟨gx, 0, none⟩) N N) (rows Gs.cv ps)) ∧ (w'.heap[b4]? = some (.cells #[.int .i64 r, .int .i64 c, .slice (some ⟨gx, 0, none⟩) N N, .int .i64 0] 28 (0, 0))) ∧ (w'.heap[b43]? = some (.cells (Gs.fv (Gs.ofM ps i)).toArray 39 (0, 0))) ∧ (w'.heap[b46]? = some (.cells (Gs.fv (Gs.ofM ps i)).toArray 40 (0, 0))) ∧ (Upd no w w')) (fun J6 hJ6 => ?_) (fun gJ6 wJ6 hI => ?_)
    · refine cond_intro (fun h48 => ?_) (fun h48 => ?_)
      · try simp only [decide_eq_true_eq, decide_eq_false_iff_not] at h48
        refine opv_run (fieldAt_eq (off := 0) (by kernel_rfl)) ?_
        refine opv_run (ldC (by kernel_rfl) h_b46 (by rfl)) ?_
        refine hJ6 _ _ ?_
        exact ⟨(congrArg (Value.int .i64) (by first | exact Gs.of_s (by assumption) | exact (Gs.bef_m1 (by assumption)).symm)), h_bp, own_p, own_x, h_b4, h_b43, h_b46, hF⟩
      · try simp only [decide_eq_true_eq, decide_eq_false_iff_not] at h48
        refine hJ6 _ _ ?_
        exact ⟨(congrArg (Value.int .i64) (by first | exact Gs.of_s (by assumption) | exact (Gs.bef_m1 (by assumption)).symm)), h_bp, own_p, own_x, h_b4, h_b43, h_b46, hF⟩
    · obtain ⟨g27, h_bp, own_p, own_x, h_b4, h_b43, h_b46, hF⟩ := hI
      try rw [g27]
      refine drawn_S (S := no) (fun w49 U49 => ?_)
      replace own_p := own_p.upd0 U49
      replace own_x := own_x.upd0 U49
      replace h_bp := U49.get0 h_bp
      replace h_b4 := U49.get0 h_b4
      replace h_b43 := U49.get0 h_b43
      replace h_b46 := U49.get0 h_b46
      replace hF := hF.go0 U49
      refine qop_T (fun w' hw' => (eqB _ _ (by kernel_rfl) _ _)) (rfl) ?_
      refine qgdtt ?_
      refine qop_run (fun w' hw' => by have h_b43 := hw'.get0 h_b43; exact (ldA (n := 3) (cs' := (Gs.fv (Gs.ofM ps i)).toArray) (by kernel_rfl) h_b43 (by first | exact Nat.le_of_ble_eq_true rfl | (simp; done) | omega) (by rfl))) ?_
      refine qgdtt ?_
      refine qop_run (fun w' hw' => by have h_b46 := hw'.get0 h_b46; exact (ldA (n := 3) (cs' := (Gs.fv (Gs.ofM ps i)).toArray) (by kernel_rfl) h_b46 (by first | exact Nat.le_of_ble_eq_true rfl | (simp; done) | omega) (by rfl))) ?_
      refine qgdtt ?_
      refine qop_T (fun w' hw' => (eq_Fld15 _)) (rfl) ?_
      refine qpickt ?_
      refine qgdtt ?_
      refine qmove ?_
      refine qgdtt ?_
      refine qmove ?_
      refine qgdtt ?_
      refine qop_call (fun w' hw' => by have h_bp := hw'.get0 h_bp; have own_p := own_p.upd0 hw'; exact c_field_Before h_bp own_p hpl (i := i) hN hb4) ?_
      refine qgdtt ?_
      refine qmove ?_
      refine qgdtt ?_
      refine qop_T (fun w' hw' => (eqI _ _ _ _ _)) (rfl) ?_
      refine qpickt ?_
      refine qgdtt ?_
      refine qmove ?_
      refine qgdtt ?_
      refine qmove ?_
      refine qgdtt ?_
      refine qop_call (fun w' hw' => by have h_bp := hw'.get0 h_bp; have own_p := own_p.upd0 hw'; exact c_field_After h_bp own_p hpl (i := i) hN hb4) ?_
      refine qgdtt ?_
      refine qop_run (fun w' hw' => by have h_b4 := hw'.get0 h_b4; exact (ldA (n := 4) (cs' := #[.int .i64 r, .int .i64 c, .slice (some ⟨gx, 0, none⟩) N N, .int .i64 0]) (by kernel_rfl) h_b4 (by first | exact Nat.le_of_ble_eq_true rfl | (simp; done) | omega) (by rfl))) ?_
      refine qgdtt ?_
      refine qmove ?_
      refine qgdtt ?_
      refine qop_call (fun w' hw' => by have own_x := own_x.upd0 hw'; exact c_ref15_After own_x.rdS hpl hb4 (i := i)) ?_
      refine qgdtt ?_
      refine qop_T (fun w' hw' => (eqI _ _ _ _ _)) (rfl) ?_
      refine qpickt ?_
      refine qgdtt ?_
      refine qmove ?_
      refine qgdtt ?_
      refine qmove ?_
      refine qgdtt ?_
      refine qop_call (fun w' hw' => by have h_bp := hw'.get0 h_bp; have own_p := own_p.upd0 hw'; exact c_field_Open h_bp own_p hpl (i := i) hN hb4 hpw) ?_
      refine qgdtt ?_
      refine qop_run (fun w' hw' => by have h_b4 := hw'.get0 h_b4; exact (ldA (n := 4) (cs' := #[.int .i64 r, .int .i64 c, .slice (some ⟨gx, 0, none⟩) N N, .int .i64 0]) (by kernel_rfl) h_b4 (by first | exact Nat.le_of_ble_eq_true rfl | (simp; done) | omega) (by rfl))) ?_
      refine qgdtt ?_
      refine qmove ?_
      refine qgdtt ?_
      refine qop_call (fun w' hw' => by have own_x := own_x.upd0 hw'; exact c_ref15_Open own_x.rdS hpl hb4 (i := i) hpw) ?_
      refine qgdtt ?_
      refine qop_T (fun w' hw' => (eqB _ _ (by kernel_rfl) _ _)) (rfl) ?_
      refine qpickt ?_
      refine ext_intro (fun w55 U55 => ?_)
      replace own_p := own_p.upd0 U55
      replace own_x := own_x.upd0 U55
      replace h_bp := U55.get0 h_bp
      replace h_b4 := U55.get0 h_b4
      replace h_b43 := U55.get0 h_b43
      replace h_b46 := U55.get0 h_b46
      replace hF := hF.go0 U55
      first | exact ⟨rfl, hF⟩ | exact absurd hsm (by assumption) | exact absurd hsd (by assumption)

end Go.Proofs.Ytojcbhkhfcddnaa
