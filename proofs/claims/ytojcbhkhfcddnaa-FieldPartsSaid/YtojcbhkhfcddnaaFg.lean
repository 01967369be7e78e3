/-
  Contracts of functions of the program, walked over their shallow forms. No condition but the ones that each states.
-/
import Derived.Test.YtojcbhkhfcddnaaFf
import Derived.Test.YtojcbhkhfcddnaaFieldLaws
namespace Go.Proofs.Ytojcbhkhfcddnaa
open Go Go.Sh
set_option linter.unusedVariables false
set_option maxRecDepth 100000


/-- greenscreen/greenscreenlaw15.FieldWalks -/
theorem c_FieldWalks_0 {r c : Int} {A : Option Addr} {n cp : Nat} {N : Nat} {cs : List Gs.Cell} {w : World} (rd1 : Rd w A (rows Gs.cv cs)) (hn : n = cs.length) (hnm : n ≤ 9223372036854775807){i : Int} (hz : Gs.cellsN r c = 0) :
    Calls Try.prog 5 #[.agg #[.int .i64 r, .int .i64 c], .slice A n cp, .int .i64 i] w fun e w' => e = .returned (.bool true) ∧ Upd no w w' := by
  refine F5.calls ?_
  unfold F5
  have lt_rd1 := Rd.lt rd1
  have hF : Upd no w w := Fr.refl _ _ _
  refine box_intro (by rfl) (fun b1 w1 e1 h_b1 _ U1 => ?_)
  have na_rd1_b1 := rd1.apart e1
  have ge_b1 : w.heap.size ≤ b1 := by have := hF.size; omega
  replace rd1 := rd1.upd0 U1
  replace hF := hF.go0 U1
  clear e1
  refine callF_T (c_law15_alive) (rfl) (fun w2 U2 => ?_)
  replace rd1 := rd1.upd0 U2
  replace h_b1 := U2.get0 h_b1
  replace hF := hF.go0 U2
  refine opv_run (notT) ?_
  refine condf ?_
  refine opv_run (ldA (n := 2) (by kernel_rfl) h_b1 (by first | exact Nat.le_of_ble_eq_true rfl | (simp; done) | omega) (by rfl)) ?_
  refine callF_ex (c_made_0 rd1 hn hnm hz) (fun v3 w3 D3 => ?_)
  obtain ⟨xa, xb, xc, xd, xe, xf, rfl, U3⟩ := D3
  replace rd1 := rd1.upd0 U3
  replace h_b1 := U3.get0 h_b1
  replace hF := hF.go0 U3
  refine opv_run (ext_t (by rfl)) ?_
  refine opv_run (ext_t (by rfl)) ?_
  refine opv_run (ext_t (by rfl)) ?_
  refine alloc_intro (cs := #[.int .i64 0, .int .i64 0, .slice none 0 0, .int .i64 0]) (by kernel_rfl) (fun b4 w4 e4 h_b4 _ U4 => ?_)
  have na_rd1_b4 := rd1.apart e4
  have ne_b1_b4 : b1 ≠ b4 := by have := lt_get h_b1; omega
  have ge_b4 : w.heap.size ≤ b4 := by have := hF.size; omega
  replace rd1 := rd1.upd0 U4
  replace h_b1 := U4.get0 h_b1
  replace hF := hF.go0 U4
  clear e4
  refine store_intro (n := 4) (cs' := #[.int .i64 xa, .int .i64 xb, .slice xd xe xf, .int .i64 xc]) (by kernel_rfl) (by rfl) (by first | rfl | (simp [Value.cells, Value.oneCell', Gs.cv, Gs.fv]; done)) h_b4 (by first | exact Nat.le_of_ble_eq_true rfl | (simp; done) | omega) (by rfl) (fun w5 N5 _ U5 => ?_)
  replace rd1 := rd1.upd1 U5 na_rd1_b4
  replace h_b1 := U5.get1 h_b1 ne_b1_b4
  replace h_b4 := N5
  replace hF := hF.go1 U5 ge_b4
  refine opv_run (notF) ?_
  refine condt ?_
  exact ⟨rfl, hF⟩

/-- greenscreen/greenscreenlaw15.FieldWalks -/
theorem c_FieldWalks_big {r c : Int} {A : Option Addr} {n cp : Nat} {N : Nat} {cs : List Gs.Cell} {w : World} (rd1 : Rd w A (rows Gs.cv cs)) (hn : n = cs.length) (hnm : n ≤ 9223372036854775807){i : Int} (hN : Gs.cellsN r c = N) (hz : 120 < N) :
    Calls Try.prog 5 #[.agg #[.int .i64 r, .int .i64 c], .slice A n cp, .int .i64 i] w fun e w' => e = .returned (.bool true) ∧ Upd no w w' := by
  refine F5.calls ?_
  unfold F5
  have lt_rd1 := Rd.lt rd1
  have hF : Upd no w w := Fr.refl _ _ _
  refine box_intro (by rfl) (fun b1 w1 e1 h_b1 _ U1 => ?_)
  have na_rd1_b1 := rd1.apart e1
  have ge_b1 : w.heap.size ≤ b1 := by have := hF.size; omega
  replace rd1 := rd1.upd0 U1
  replace hF := hF.go0 U1
  clear e1
  refine callF_T (c_law15_alive) (rfl) (fun w2 U2 => ?_)
  replace rd1 := rd1.upd0 U2
  replace h_b1 := U2.get0 h_b1
  replace hF := hF.go0 U2
  refine opv_run (notT) ?_
  refine condf ?_
  refine opv_run (ldA (n := 2) (by kernel_rfl) h_b1 (by first | exact Nat.le_of_ble_eq_true rfl | (simp; done) | omega) (by rfl)) ?_
  refine callF_ex (c_made_big rd1 hn hnm hN hz) (fun v3 w3 D3 => ?_)
  obtain ⟨xa, xb, xc, xd, xe, xf, rfl, U3⟩ := D3
  replace rd1 := rd1.upd0 U3
  replace h_b1 := U3.get0 h_b1
  replace hF := hF.go0 U3
  refine opv_run (ext_t (by rfl)) ?_
  refine opv_run (ext_t (by rfl)) ?_
  refine opv_run (ext_t (by rfl)) ?_
  refine alloc_intro (cs := #[.int .i64 0, .int .i64 0, .slice none 0 0, .int .i64 0]) (by kernel_rfl) (fun b4 w4 e4 h_b4 _ U4 => ?_)
  have na_rd1_b4 := rd1.apart e4
  have ne_b1_b4 : b1 ≠ b4 := by have := lt_get h_b1; omega
  have ge_b4 : w.heap.size ≤ b4 := by have := hF.size; omega
  replace rd1 := rd1.upd0 U4
  replace h_b1 := U4.get0 h_b1
  replace hF := hF.go0 U4
  clear e4
  refine store_intro (n := 4) (cs' := #[.int .i64 xa, .int .i64 xb, .slice xd xe xf, .int .i64 xc]) (by kernel_rfl) (by rfl) (by first | rfl | (simp [Value.cells, Value.oneCell', Gs.cv, Gs.fv]; done)) h_b4 (by first | exact Nat.le_of_ble_eq_true rfl | (simp; done) | omega) (by rfl) (fun w5 N5 _ U5 => ?_)
  replace rd1 := rd1.upd1 U5 na_rd1_b4
  replace h_b1 := U5.get1 h_b1 ne_b1_b4
  replace h_b4 := N5
  replace hF := hF.go1 U5 ge_b4
  refine opv_run (notF) ?_
  refine condt ?_
  exact ⟨rfl, hF⟩

/-- greenscreen/greenscreenlaw15.FieldWalks -/
theorem c_FieldWalks_ok {r c : Int} {A : Option Addr} {n cp : Nat} {N : Nat} {cs : List Gs.Cell} {w : World} (rd1 : Rd w A (rows Gs.cv cs)) (hn : n = cs.length) (hnm : n ≤ 9223372036854775807){i : Int} (hcw : Gs.Cws cs) (hN : Gs.cellsN r c = N) (hz : N ≠ 0) (hz2 : N ≤ 120) :
    Calls Try.prog 5 #[.agg #[.int .i64 r, .int .i64 c], .slice A n cp, .int .i64 i] w fun e w' => e = .returned (.bool true) ∧ Upd no w w' := by
  refine F5.calls ?_
  unfold F5
  have lt_rd1 := Rd.lt rd1
  have hF : Upd no w w := Fr.refl _ _ _
  refine box_intro (by rfl) (fun b1 w1 e1 h_b1 _ U1 => ?_)
  have na_rd1_b1 := rd1.apart e1
  have ge_b1 : w.heap.size ≤ b1 := by have := hF.size; omega
  replace rd1 := rd1.upd0 U1
  replace hF := hF.go0 U1
  clear e1
  refine callF_T (c_law15_alive) (rfl) (fun w2 U2 => ?_)
  replace rd1 := rd1.upd0 U2
  replace h_b1 := U2.get0 h_b1
  replace hF := hF.go0 U2
  refine opv_run (notT) ?_
  refine condf ?_
  refine opv_run (ldA (n := 2) (by kernel_rfl) h_b1 (by first | exact Nat.le_of_ble_eq_true rfl | (simp; done) | omega) (by rfl)) ?_
  refine callF_ex (c_made_ok rd1 hn hnm hN hz hz2) (fun v3 w3 D3 => ?_)
  obtain ⟨bp, gp, gx, rfl, gbp, h_bp, own_p, own_x, npx, U3⟩ := D3
  have na_rd1_bp := (Rd.lt rd1).ne (b := bp) (by omega)
  have ne_b1_bp : b1 ≠ bp := by have := lt_get h_b1; omega
  have ge_bp : w.heap.size ≤ bp := by have := hF.size; omega
  have nx3_rd1_own_p : _ ∨ ∀ k, blkOf _ k → ¬ ownS _ k := (Rd.lt rd1).imp_right fun h k hk hs => by have := h k hk; have := (Own.ge own_p hs).1; omega
  have nx3_h_b1_own_p : ¬ ownS _ b1 := fun h => by have := (Own.ge own_p h).1; have := lt_get h_b1; omega
  replace own_p := own_p.mono (B' := w.heap.size) hF.size
  have nx3_rd1_own_x : _ ∨ ∀ k, blkOf _ k → ¬ ownS _ k := (Rd.lt rd1).imp_right fun h k hk hs => by have := h k hk; have := (Own.ge own_x hs).1; omega
  have nx3_h_b1_own_x : ¬ ownS _ b1 := fun h => by have := (Own.ge own_x h).1; have := lt_get h_b1; omega
  replace own_x := own_x.mono (B' := w.heap.size) hF.size
  replace rd1 := rd1.upd0 U3
  replace h_b1 := U3.get0 h_b1
  replace hF := hF.go0 U3
  obtain ⟨ps, hps⟩ : ∃ ps, ps = Gs.madeK N cs cs.length := ⟨_, rfl⟩
  rw [← hps] at own_p own_x
  have hpl : N = ps.length := by rw [hps, Gs.made_len]
  have hpw : Gs.Cws ps := by rw [hps]; exact Gs.made_w hcw _
  clear hps
  have hb4 : N ≤ 4096 := by omega
  have hal := Gs.allM_len ps
  have hsl := Gs.starts_len_le ps
  refine opv_run (ext_t (by rfl)) ?_
  refine opv_run (ext_t (by rfl)) ?_
  refine opv_run (ext_t (by rfl)) ?_
  refine alloc_intro (cs := #[.int .i64 0, .int .i64 0, .slice none 0 0, .int .i64 0]) (by kernel_rfl) (fun b4 w4 e4 h_b4 _ U4 => ?_)
  have na_rd1_b4 := rd1.apart e4
  have ne_b1_b4 : b1 ≠ b4 := by have := lt_get h_b1; omega
  have ne_bp_b4 : bp ≠ b4 := by have := lt_get h_bp; omega
  have na_own_p_b4 := own_p.apart e4
  have na_own_x_b4 := own_x.apart e4
  have ge_b4 : w.heap.size ≤ b4 := by have := hF.size; omega
  replace rd1 := rd1.upd0 U4
  replace own_p := own_p.upd0 U4
  replace own_x := own_x.upd0 U4
  replace h_b1 := U4.get0 h_b1
  replace h_bp := U4.get0 h_bp
  replace hF := hF.go0 U4
  clear e4
  refine store_intro (n := 4) (cs' := #[.int .i64 r, .int .i64 c, .slice (some ⟨gx, 0, none⟩) N N, .int .i64 0]) (by kernel_rfl) (by rfl) (by first | rfl | (simp [Value.cells, Value.oneCell', Gs.cv, Gs.fv]; done)) h_b4 (by first | exact Nat.le_of_ble_eq_true rfl | (simp; done) | omega) (by rfl) (fun w5 N5 _ U5 => ?_)
  replace rd1 := rd1.upd1 U5 na_rd1_b4
  replace own_p := own_p.upd1 U5 na_own_p_b4
  replace own_x := own_x.upd1 U5 na_own_x_b4
  replace h_b1 := U5.get1 h_b1 ne_b1_b4
  replace h_bp := U5.get1 h_bp ne_bp_b4
  replace h_b4 := N5
  replace hF := hF.go1 U5 ge_b4
  refine opv_run (notT) ?_
  refine condf ?_
  refine callF_ex (c_law15_all h_bp own_p hpl (m := 1000) hN hb4 hpw (by omega)) (fun v6 w6 D6 => ?_)
  obtain ⟨own28, U6⟩ := D6
  have nx6_rd1_own28 : _ ∨ ∀ k, blkOf _ k → ¬ ownS _ k := (Rd.lt rd1).imp_right fun h k hk hs => by have := h k hk; have := (Own.ge own28 hs).1; omega
  have nx6_h_b1_own28 : ¬ ownS _ b1 := fun h => by have := (Own.ge own28 h).1; have := lt_get h_b1; omega
  have nx6_h_bp_own28 : ¬ ownS _ bp := fun h => by have := (Own.ge own28 h).1; have := lt_get h_bp; omega
  have nx6_own_p_own28 : ∀ k, ownS _ k → ¬ ownS _ k := fun k hk hs => by have := (Own.ge own_p hk).2; have := (Own.ge own28 hs).1; omega
  have nx6_own_x_own28 : ∀ k, ownS _ k → ¬ ownS _ k := fun k hk hs => by have := (Own.ge own_x hk).2; have := (Own.ge own28 hs).1; omega
  have nx6_h_b4_own28 : ¬ ownS _ b4 := fun h => by have := (Own.ge own28 h).1; have := lt_get h_b4; omega
  replace own28 := own28.mono (B' := w.heap.size) hF.size
  replace rd1 := rd1.upd0 U6
  replace own_p := own_p.upd0 U6
  replace own_x := own_x.upd0 U6
  replace h_b1 := U6.get0 h_b1
  replace h_bp := U6.get0 h_bp
  replace h_b4 := U6.get0 h_b4
  replace hF := hF.go0 U6
  replace own28 := own28.mono (B' := w.heap.size) (by have := hF.size; omega)
  rw [List.take_of_length_le (by rw [Gs.allM_len]; omega)] at own28
  obtain ⟨A28, c28, rfl⟩ := Own.open Gs.encF own28
  refine join_cut (fun g w' => (w'.heap[bp]? = some (.cells #[.int .i64 r, .int .i64 c, .slice (some ⟨gp, 0, none⟩) N N, .int .i64 0] 102 (0, 0))) ∧ (Own w.heap.size w' 45 5 (.slice (some ⟨gp, 0, none⟩) N N) (rows Gs.cv ps)) ∧ (Own w.heap.size w' 39 3 (.slice A28 (Gs.allM ps).length c28) (rows Gs.fv (Gs.allM ps))) ∧ (Upd no w w')) (fun J1 hJ1 => ?_) (fun gJ1 wJ1 hI => ?_)
  · refine opv_run (len_sl (by kernel_rfl) _ _ _) ?_
    refine loop_intro (fun g w' => ∃ (k : Nat), (g 31 = .int .i64 (k : Int)) ∧ (k ≤ (Gs.allM ps).length) ∧ (w'.heap[bp]? = some (.cells #[.int .i64 r, .int .i64 c, .slice (some ⟨gp, 0, none⟩) N N, .int .i64 0] 102 (0, 0))) ∧ (Own w.heap.size w' 45 5 (.slice (some ⟨gp, 0, none⟩) N N) (rows Gs.cv ps)) ∧ (Own w.heap.size w' 39 3 (.slice A28 (Gs.allM ps).length c28) (rows Gs.fv (Gs.allM ps))) ∧ (Upd no w w')) (fun g w' => (Gs.allM ps).length - (RowKit.intOf (g 31)).toNat) ?_ (fun g2 wl2 hI => ?_)
    · exact ⟨0, (by first | exact g31 | rfl), Nat.zero_le _, h_bp, own_p, own28, hF⟩
    · obtain ⟨k, g31, hk, h_bp, own_p, own28, hF⟩ := hI
      try rw [g31]
      refine opv_dec (lss _ _ _ _) (fun h7 => ?_) (fun h7 => ?_)
      · refine condt ?_
        refine idx_rows Gs.encF (by kernel_rfl) (by kernel_rfl) own28.rdS (by first | rfl | assumption | omega) (by omega) (by omega) (fun x8 hx8 => ?_)
        try simp only [Int.toNat_natCast] at hx8
        refine alloc_intro (cs := (Gs.fv Gs.zf).toArray) (by kernel_rfl) (fun b9 w9 e9 h_b9 _ U9 => ?_)
        have ne_bp_b9 : bp ≠ b9 := by have := lt_get h_bp; omega
        have na_own_p_b9 := own_p.apart e9
        have na_own28_b9 := own28.apart e9
        have ge_b9 : w.heap.size ≤ b9 := by have := hF.size; omega
        replace own_p := own_p.upd0 U9
        replace own28 := own28.upd0 U9
        replace h_bp := U9.get0 h_bp
        replace hF := hF.go0 U9
        clear e9
        refine store_intro (n := 3) (cs' := (Gs.fv x8).toArray) (by kernel_rfl) (by rfl) (by first | rfl | (simp [Value.cells, Value.oneCell', Gs.cv, Gs.fv]; done)) h_b9 (by first | exact Nat.le_of_ble_eq_true rfl | (simp; done) | omega) (by rfl) (fun w10 N10 _ U10 => ?_)
        replace own_p := own_p.upd1 U10 na_own_p_b9
        replace own28 := own28.upd1 U10 na_own28_b9
        replace h_bp := U10.get1 h_bp ne_bp_b9
        replace h_b9 := N10
        replace hF := hF.go1 U10 ge_b9
        first | refine opv_run (add_i64 _ (by omega)) ?_ | refine opv_run (addI _ _ _ _) ?_
        refine opv_run (len_sl (by kernel_rfl) _ _ _) ?_
        refine opv_run (remN _ (by omega) (by omega) (by omega)) ?_
        have hrb := Gs.mod_bd ((k : Int) + 1) (show 0 < (Gs.allM ps).length by omega)
        refine idx_rows Gs.encF (by kernel_rfl) (by kernel_rfl) own28.rdS (by first | rfl | assumption | omega) (by omega) (by omega) (fun x11 hx11 => ?_)
        try simp only [Int.toNat_natCast] at hx11
        refine alloc_intro (cs := (Gs.fv Gs.zf).toArray) (by kernel_rfl) (fun b12 w12 e12 h_b12 _ U12 => ?_)
        have ne_bp_b12 : bp ≠ b12 := by have := lt_get h_bp; omega
        have na_own_p_b12 := own_p.apart e12
        have na_own28_b12 := own28.apart e12
        have ne_b9_b12 : b9 ≠ b12 := by have := lt_get h_b9; omega
        have ge_b12 : w.heap.size ≤ b12 := by have := hF.size; omega
        replace own_p := own_p.upd0 U12
        replace own28 := own28.upd0 U12
        replace h_bp := U12.get0 h_bp
        replace h_b9 := U12.get0 h_b9
        replace hF := hF.go0 U12
        clear e12
        refine store_intro (n := 3) (cs' := (Gs.fv x11).toArray) (by kernel_rfl) (by rfl) (by first | rfl | (simp [Value.cells, Value.oneCell', Gs.cv, Gs.fv]; done)) h_b12 (by first | exact Nat.le_of_ble_eq_true rfl | (simp; done) | omega) (by rfl) (fun w13 N13 _ U13 => ?_)
        replace own_p := own_p.upd1 U13 na_own_p_b12
        replace own28 := own28.upd1 U13 na_own28_b12
        replace h_bp := U13.get1 h_bp ne_bp_b12
        replace h_b9 := U13.get1 h_b9 ne_b9_b12
        replace h_b12 := N13
        replace hF := hF.go1 U13 ge_b12
        refine drawn_S (S := no) (fun w14 U14 => ?_)
        replace own_p := own_p.upd0 U14
        replace own28 := own28.upd0 U14
        replace h_bp := U14.get0 h_bp
        replace h_b9 := U14.get0 h_b9
        replace h_b12 := U14.get0 h_b12
        replace hF := hF.go0 U14
        refine qop_run (fun w' hw' => (fieldAt_eq (off := 0) (by kernel_rfl))) ?_
        refine qop_run (fun w' hw' => by have h_b9 := hw'.get0 h_b9; exact (ldC (by kernel_rfl) h_b9 (by rfl))) ?_
        refine qop_call (fun w' hw' => by have h_bp := hw'.get0 h_bp; have own_p := own_p.upd0 hw'; exact c_field_After h_bp own_p hpl (i := x8.s) hN hb4) ?_
        refine qop_run (fun w' hw' => (fieldAt_eq (off := 0) (by kernel_rfl))) ?_
        refine qop_run (fun w' hw' => by have h_b12 := hw'.get0 h_b12; exact (ldC (by kernel_rfl) h_b12 (by rfl))) ?_
        refine qop_F (fun w' hw' => (neI _ _ _ _ _)) (fun hne => hne (Gs.walk1 hx8 hx11)) ?_
        refine qgdff ?_
        refine qmove ?_
        refine qgdff ?_
        refine qop_run (fun w' hw' => (fieldAt_eq (off := 0) (by kernel_rfl))) ?_
        refine qgdff ?_
        refine qop_run (fun w' hw' => by have h_b9 := hw'.get0 h_b9; exact (ldC (by kernel_rfl) h_b9 (by rfl))) ?_
        refine qgdff ?_
        refine qop_call (fun w' hw' => by have h_bp := hw'.get0 h_bp; have own_p := own_p.upd0 hw'; exact c_field_Before h_bp own_p hpl (i := x8.s) hN hb4) ?_
        refine qgdff ?_
        refine qop_run (fun w' hw' => (fieldAt_eq (off := 0) (by kernel_rfl))) ?_
        refine qgdff ?_
        refine qop_run (fun w' hw' => by have h_b9 := hw'.get0 h_b9; exact (ldC (by kernel_rfl) h_b9 (by rfl))) ?_
        refine qgdff ?_
        refine qop_F (fun w' hw' => (neI _ _ _ _ _)) (fun hne => hne (Gs.walk2 hx8)) ?_
        refine qpickf ?_
        refine qgdff ?_
        refine qmove ?_
        refine qgdff ?_
        refine qop_run (fun w' hw' => (fieldAt_eq (off := 0) (by kernel_rfl))) ?_
        refine qgdff ?_
        refine qop_run (fun w' hw' => by have h_b9 := hw'.get0 h_b9; exact (ldC (by kernel_rfl) h_b9 (by rfl))) ?_
        refine qgdff ?_
        refine qop_callb (fun w' hw' => by have h_bp := hw'.get0 h_bp; have own_p := own_p.upd0 hw'; exact c_field_Open h_bp own_p hpl (i := x8.s) hN hb4 hpw) (fun h17 => ?_) (fun h17 => ?_)
        · try simp only [decide_eq_true_eq, decide_eq_false_iff_not] at h17
          refine qpickf ?_
          refine qgdtf ?_
          refine qgdtf ?_
          refine qgdtf ?_
          refine qgdtf ?_
          refine qgdtf ?_
          refine qgdtf ?_
          refine qpickt ?_
          refine ext_intro (fun w18 U18 => ?_)
          replace own_p := own_p.upd0 U18
          replace own28 := own28.upd0 U18
          replace h_bp := U18.get0 h_bp
          replace h_b9 := U18.get0 h_b9
          replace h_b12 := U18.get0 h_b12
          replace hF := hF.go0 U18
          refine condt ?_
          first | exact ⟨rfl, hF⟩ | exact absurd ((Gs.walk3 hx8).symm.trans (by assumption)) (by decide) | exact absurd ((Gs.walk0 hx8).2.symm.trans (by assumption)) (by decide) | exact absurd ((Gs.open_T (by omega) hob).symm.trans (by assumption)) (by decide) | exact ⟨by rw [decide_eq_true (by first | exact Gs.walk5 hob (by assumption) | exact Gs.walk6 hob (by assumption))], hF⟩
        · try simp only [decide_eq_true_eq, decide_eq_false_iff_not] at h17
          refine qpickf ?_
          refine qgdff ?_
          refine qmove ?_
          refine qgdff ?_
          refine qop_run (fun w' hw' => (fieldAt_eq (off := 0) (by kernel_rfl))) ?_
          refine qgdff ?_
          refine qop_run (fun w' hw' => by have h_b9 := hw'.get0 h_b9; exact (ldC (by kernel_rfl) h_b9 (by rfl))) ?_
          refine qgdff ?_
          refine qop_call (fun w' hw' => by have h_bp := hw'.get0 h_bp; have own_p := own_p.upd0 hw'; exact c_Plane_At h_bp own_p hpl (i := x8.s)) ?_
          refine qgdff ?_
          refine qop_b (fun w' hw' => (field_one (off := 2) (by kernel_rfl) (by rfl))) (fun h21 => ?_) (fun h21 => ?_)
          · refine qgdff ?_
            refine qop_run (fun w' hw' => (notT)) ?_
            refine qpickf ?_
            refine ext_intro (fun w22 U22 => ?_)
            replace own_p := own_p.upd0 U22
            replace own28 := own28.upd0 U22
            replace h_bp := U22.get0 h_bp
            replace h_b9 := U22.get0 h_b9
            replace h_b12 := U22.get0 h_b12
            replace hF := hF.go0 U22
            refine condf ?_
            first | refine opv_run (add_i64 _ (by omega)) ?_ | refine opv_run (addI _ _ _ _) ?_
            exact ⟨⟨k + 1, (by first | exact g31 | rfl), by omega, h_bp, own_p, own28, hF⟩, cnt_lt (by first | rfl | exact g31) rfl (by omega)⟩
          · refine qgdff ?_
            refine qop_run (fun w' hw' => (notF)) ?_
            refine qpickf ?_
            refine ext_intro (fun w23 U23 => ?_)
            replace own_p := own_p.upd0 U23
            replace own28 := own28.upd0 U23
            replace h_bp := U23.get0 h_bp
            replace h_b9 := U23.get0 h_b9
            replace h_b12 := U23.get0 h_b12
            replace hF := hF.go0 U23
            refine condt ?_
            first | exact ⟨rfl, hF⟩ | exact absurd ((Gs.walk3 hx8).symm.trans (by assumption)) (by decide) | exact absurd ((Gs.walk0 hx8).2.symm.trans (by assumption)) (by decide) | exact absurd ((Gs.open_T (by omega) hob).symm.trans (by assumption)) (by decide) | exact ⟨by rw [decide_eq_true (by first | exact Gs.walk5 hob (by assumption) | exact Gs.walk6 hob (by assumption))], hF⟩
      · refine condf ?_
        refine hJ1 _ _ ?_
        exact ⟨h_bp, own_p, own28, hF⟩
  · obtain ⟨h_bp, own_p, own28, hF⟩ := hI
    refine opv_run (and_4095 _ _) ?_
    refine callF_val (c_Plane_Len h_bp own_p hpl) (fun w25 U25 => ?_)
    replace own_p := own_p.upd0 U25
    replace own28 := own28.upd0 U25
    replace h_bp := U25.get0 h_bp
    replace hF := hF.go0 U25
    refine opv_run (remN _ (by omega) (by omega) (by omega)) ?_
    obtain ⟨f, hf⟩ : ∃ f, f = i % 4096 % (N : Int) := ⟨_, rfl⟩
    rw [← hf]
    have hfi := Gs.place i hz
    rw [← hf] at hfi
    clear hf
    refine callF_val (c_field_Of h_bp own_p hpl (i := f) hN hb4 hpw) (fun w26 U26 => ?_)
    replace own_p := own_p.upd0 U26
    replace own28 := own28.upd0 U26
    replace h_bp := U26.get0 h_bp
    replace hF := hF.go0 U26
    cases hob : Gs.ofB ps f
    · refine opv_run (ext_t (by rfl)) ?_
      refine opv_run (ext_t (by rfl)) ?_
      refine alloc_intro (cs := (Gs.fv Gs.zf).toArray) (by kernel_rfl) (fun b27 w27 e27 h_b27 _ U27 => ?_)
      have ne_bp_b27 : bp ≠ b27 := by have := lt_get h_bp; omega
      have na_own_p_b27 := own_p.apart e27
      have na_own28_b27 := own28.apart e27
      have ge_b27 : w.heap.size ≤ b27 := by have := hF.size; omega
      replace own_p := own_p.upd0 U27
      replace own28 := own28.upd0 U27
      replace h_bp := U27.get0 h_bp
      replace hF := hF.go0 U27
      clear e27
      refine store_intro (n := 3) (cs' := (Gs.fv (Gs.ofM ps f)).toArray) (by kernel_rfl) (by rfl) (by first | rfl | (simp [Value.cells, Value.oneCell', Gs.cv, Gs.fv]; done)) h_b27 (by first | exact Nat.le_of_ble_eq_true rfl | (simp; done) | omega) (by rfl) (fun w28 N28 _ U28 => ?_)
      replace own_p := own_p.upd1 U28 na_own_p_b27
      replace own28 := own28.upd1 U28 na_own28_b27
      replace h_bp := U28.get1 h_bp ne_bp_b27
      replace h_b27 := N28
      replace hF := hF.go1 U28 ge_b27
      refine opv_run (len_sl (by kernel_rfl) _ _ _) ?_
      refine opv_run (gtr _ _ _ _) ?_
      refine opv_F (neB _ _ (by kernel_rfl) _ _) (fun hne => hne (hob.symm.trans (Gs.ofB_eq (by omega)))) ?_
      refine gdff ?_
      refine gdff ?_
      refine opv_run (notF) ?_
      refine gdff ?_
      refine gdtt ?_
      refine gdtt ?_
      refine gdtt ?_
      refine callF_bool (c_field_Open h_bp own_p hpl (i := f) hN hb4 hpw) (fun w29 U29 h29 => ?_) (fun w29 U29 h29 => ?_)
      · replace own_p := own_p.upd0 U29
        replace own28 := own28.upd0 U29
        replace h_bp := U29.get0 h_bp
        replace h_b27 := U29.get0 h_b27
        replace hF := hF.go0 U29
        try simp only [decide_eq_true_eq, decide_eq_false_iff_not] at h29
        refine gdtt ?_
        refine opv_run (notT) ?_
        refine gdtt ?_
        refine gdff ?_
        refine gdff ?_
        refine gdff ?_
        refine callF_val (c_field_Before h_bp own_p hpl (i := f) hN hb4) (fun w30 U30 => ?_)
        replace own_p := own_p.upd0 U30
        replace own28 := own28.upd0 U30
        replace h_bp := U30.get0 h_bp
        replace h_b27 := U30.get0 h_b27
        replace hF := hF.go0 U30
        refine gdff ?_
        refine opv_F (neI _ _ _ _ _) (fun hne => hne (Gs.bef_m1 hob)) ?_
        refine gdtt ?_
        refine pickf ?_
        refine gdff ?_
        refine pickt ?_
        refine pickf ?_
        refine condf ?_
        refine drawn_S (S := no) (fun w31 U31 => ?_)
        replace own_p := own_p.upd0 U31
        replace own28 := own28.upd0 U31
        replace h_bp := U31.get0 h_bp
        replace h_b27 := U31.get0 h_b27
        replace hF := hF.go0 U31
        refine qop_run (fun w' hw' => (notF)) ?_
        refine qgdtf ?_
        refine qgdtf ?_
        refine qgdtf ?_
        refine qgdtf ?_
        refine qgdtf ?_
        refine qgdtf ?_
        refine qgdtf ?_
        refine qgdtf ?_
        refine qgdun ?_
        refine qgdun ?_
        refine qgdun ?_
        refine qgdun ?_
        refine qgdtf ?_
        refine qgdtf ?_
        refine qpickt ?_
        refine ext_intro (fun w32 U32 => ?_)
        replace own_p := own_p.upd0 U32
        replace own28 := own28.upd0 U32
        replace h_bp := U32.get0 h_bp
        replace h_b27 := U32.get0 h_b27
        replace hF := hF.go0 U32
        first | exact ⟨rfl, hF⟩ | exact absurd ((Gs.walk3 hx8).symm.trans (by assumption)) (by decide) | exact absurd ((Gs.walk0 hx8).2.symm.trans (by assumption)) (by decide) | exact absurd ((Gs.open_T (by omega) hob).symm.trans (by assumption)) (by decide) | exact ⟨by rw [decide_eq_true (by first | exact Gs.walk5 hob (by assumption) | exact Gs.walk6 hob (by assumption))], hF⟩
      · replace own_p := own_p.upd0 U29
        replace own28 := own28.upd0 U29
        replace h_bp := U29.get0 h_bp
        replace h_b27 := U29.get0 h_b27
        replace hF := hF.go0 U29
        try simp only [decide_eq_true_eq, decide_eq_false_iff_not] at h29
        refine gdtt ?_
        refine opv_run (notF) ?_
        refine gdtt ?_
        refine gdtf ?_
        refine gdtf ?_
        refine gdtf ?_
        refine gdtf ?_
        refine gdtt ?_
        refine pickt ?_
        refine gdff ?_
        refine pickt ?_
        refine pickf ?_
        refine condt ?_
        first | exact ⟨rfl, hF⟩ | exact absurd ((Gs.walk3 hx8).symm.trans (by assumption)) (by decide) | exact absurd ((Gs.walk0 hx8).2.symm.trans (by assumption)) (by decide) | exact absurd ((Gs.open_T (by omega) hob).symm.trans (by assumption)) (by decide) | exact ⟨by rw [decide_eq_true (by first | exact Gs.walk5 hob (by assumption) | exact Gs.walk6 hob (by assumption))], hF⟩
    · refine opv_run (ext_t (by rfl)) ?_
      refine opv_run (ext_t (by rfl)) ?_
      refine alloc_intro (cs := (Gs.fv Gs.zf).toArray) (by kernel_rfl) (fun b35 w35 e35 h_b35 _ U35 => ?_)
      have ne_bp_b35 : bp ≠ b35 := by have := lt_get h_bp; omega
      have na_own_p_b35 := own_p.apart e35
      have na_own28_b35 := own28.apart e35
      have ge_b35 : w.heap.size ≤ b35 := by have := hF.size; omega
      replace own_p := own_p.upd0 U35
      replace own28 := own28.upd0 U35
      replace h_bp := U35.get0 h_bp
      replace hF := hF.go0 U35
      clear e35
      refine store_intro (n := 3) (cs' := (Gs.fv (Gs.ofM ps f)).toArray) (by kernel_rfl) (by rfl) (by first | rfl | (simp [Value.cells, Value.oneCell', Gs.cv, Gs.fv]; done)) h_b35 (by first | exact Nat.le_of_ble_eq_true rfl | (simp; done) | omega) (by rfl) (fun w36 N36 _ U36 => ?_)
      replace own_p := own_p.upd1 U36 na_own_p_b35
      replace own28 := own28.upd1 U36 na_own28_b35
      replace h_bp := U36.get1 h_bp ne_bp_b35
      replace h_b35 := N36
      replace hF := hF.go1 U36 ge_b35
      refine opv_run (len_sl (by kernel_rfl) _ _ _) ?_
      refine opv_run (gtr _ _ _ _) ?_
      refine opv_F (neB _ _ (by kernel_rfl) _ _) (fun hne => hne (hob.symm.trans (Gs.ofB_eq (by omega)))) ?_
      refine gdff ?_
      refine gdff ?_
      refine opv_run (notT) ?_
      refine gdff ?_
      refine gdft ?_
      refine gdft ?_
      refine gdft ?_
      refine gdft ?_
      refine gdft ?_
      refine gdun ?_
      refine gdun ?_
      refine gdun ?_
      refine gdun ?_
      refine gdft ?_
      refine gdff ?_
      refine pickf ?_
      refine pickf ?_
      refine condf ?_
      refine drawn_S (S := no) (fun w37 U37 => ?_)
      replace own_p := own_p.upd0 U37
      replace own28 := own28.upd0 U37
      replace h_bp := U37.get0 h_bp
      replace h_b35 := U37.get0 h_b35
      replace hF := hF.go0 U37
      refine qop_run (fun w' hw' => (notT)) ?_
      refine qgdff ?_
      refine qmove ?_
      refine qgdff ?_
      refine qmove ?_
      refine qgdff ?_
      refine qop_call (fun w' hw' => by have h_bp := hw'.get0 h_bp; have own_p := own_p.upd0 hw'; exact c_field_Open h_bp own_p hpl (i := f) hN hb4 hpw) ?_
      refine qgdff ?_
      refine qmove ?_
      refine qgdff ?_
      refine qop_run (fun w' hw' => (fieldAt_eq (off := 0) (by kernel_rfl))) ?_
      refine qgdff ?_
      refine qop_run (fun w' hw' => by have h_b35 := hw'.get0 h_b35; exact (ldC (by kernel_rfl) h_b35 (by rfl))) ?_
      refine qgdff ?_
      refine qop_dec (fun w' hw' => (neI _ _ _ _ _)) (fun h39 => ?_) (fun h39 => ?_)
      · refine qgdff ?_
        refine qmove ?_
        refine qgdtt ?_
        refine qop_run (fun w' hw' => (fieldAt_eq (off := 2) (by kernel_rfl))) ?_
        refine qgdtt ?_
        refine qop_run (fun w' hw' => by have h_b35 := hw'.get0 h_b35; exact (ldC (by kernel_rfl) h_b35 (by rfl))) ?_
        refine qgdtt ?_
        have hoa := Gs.of_a hpw f
        refine qop_run (fun w' hw' => (and8_32 _ (by omega))) ?_
        refine qgdtt ?_
        refine qop_run (fun w' hw' => (eqI _ _ _ _ _)) ?_
        refine qgdff ?_
        refine qpickt ?_
        refine qgdff ?_
        refine qop_run (fun w' hw' => (eqB _ _ (by kernel_rfl) _ _)) ?_
        refine qpickf ?_
        refine ext_intro (fun w40 U40 => ?_)
        replace own_p := own_p.upd0 U40
        replace own28 := own28.upd0 U40
        replace h_bp := U40.get0 h_bp
        replace h_b35 := U40.get0 h_b35
        replace hF := hF.go0 U40
        first | exact ⟨rfl, hF⟩ | exact absurd ((Gs.walk3 hx8).symm.trans (by assumption)) (by decide) | exact absurd ((Gs.walk0 hx8).2.symm.trans (by assumption)) (by decide) | exact absurd ((Gs.open_T (by omega) hob).symm.trans (by assumption)) (by decide) | exact ⟨by rw [decide_eq_true (by first | exact Gs.walk5 hob (by assumption) | exact Gs.walk6 hob (by assumption))], hF⟩
      · refine qgdff ?_
        refine qmove ?_
        refine qgdft ?_
        refine qgdft ?_
        refine qgdft ?_
        refine qgdft ?_
        refine qgdff ?_
        refine qpickf ?_
        refine qgdff ?_
        refine qop_run (fun w' hw' => (eqB _ _ (by kernel_rfl) _ _)) ?_
        refine qpickf ?_
        refine ext_intro (fun w42 U42 => ?_)
        replace own_p := own_p.upd0 U42
        replace own28 := own28.upd0 U42
        replace h_bp := U42.get0 h_bp
        replace h_b35 := U42.get0 h_b35
        replace hF := hF.go0 U42
        first | exact ⟨rfl, hF⟩ | exact absurd ((Gs.walk3 hx8).symm.trans (by assumption)) (by decide) | exact absurd ((Gs.walk0 hx8).2.symm.trans (by assumption)) (by decide) | exact absurd ((Gs.open_T (by omega) hob).symm.trans (by assumption)) (by decide) | exact ⟨by rw [decide_eq_true (by first | exact Gs.walk5 hob (by assumption) | exact Gs.walk6 hob (by assumption))], hF⟩

end Go.Proofs.Ytojcbhkhfcddnaa
