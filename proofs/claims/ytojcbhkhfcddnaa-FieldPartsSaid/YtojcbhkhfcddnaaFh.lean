/-
  Contracts of functions of the program, walked over their shallow forms. No condition but the ones that each states.
-/
import Derived.Test.YtojcbhkhfcddnaaFg
import Derived.Test.YtojcbhkhfcddnaaFieldLaws2
namespace Go.Proofs.Ytojcbhkhfcddnaa
open Go Go.Sh
set_option linter.unusedVariables false
set_option maxRecDepth 100000


/-- greenscreen/greenscreenlaw15.FieldTexts -/
theorem c_FieldTexts_0 {r c : Int} {A : Option Addr} {n cp : Nat} {N : Nat} {cs : List Gs.Cell} {w : World} (rd1 : Rd w A (rows Gs.cv cs)) (hn : n = cs.length) (hnm : n ≤ 9223372036854775807){page : Int} (hz : Gs.cellsN r c = 0) :
    Calls Try.prog 6 #[.agg #[.int .i64 r, .int .i64 c], .slice A n cp, .int .i64 page] w fun e w' => e = .returned (.bool true) ∧ Upd no w w' := by
  refine F6.calls ?_
  unfold F6
  have lt_rd1 := Rd.lt rd1
  have hF : Upd no w w := Fr.refl _ _ _
  refine box_intro (by rfl) (fun b1 w1 e1 h_b1 _ U1 => ?_)
  have na_rd1_b1 := rd1.apart e1
  have ge_b1 : w.heap.size ≤ b1 := by have := hF.size; omega
  replace rd1 := rd1.upd0 U1
  replace hF := hF.go0 U1
  clear e1
  refine callF_T (c_law15_alive) (rfl) (fun w2 U2 => ?_)
  replace rd1 := rd1.upd0 U2
  replace h_b1 := U2.get0 h_b1
  replace hF := hF.go0 U2
  refine opv_run (notT) ?_
  refine condf ?_
  refine opv_run (ldA (n := 2) (by kernel_rfl) h_b1 (by first | exact Nat.le_of_ble_eq_true rfl | (simp; done) | omega) (by rfl)) ?_
  refine callF_ex (c_made_0 rd1 hn hnm hz) (fun v3 w3 D3 => ?_)
  obtain ⟨xa, xb, xc, xd, xe, xf, rfl, U3⟩ := D3
  replace rd1 := rd1.upd0 U3
  replace h_b1 := U3.get0 h_b1
  replace hF := hF.go0 U3
  refine opv_run (ext_t (by rfl)) ?_
  refine opv_run (ext_t (by rfl)) ?_
  refine opv_run (ext_t (by rfl)) ?_
  refine alloc_intro (cs := #[.int .i64 0, .int .i64 0, .slice none 0 0, .int .i64 0]) (by kernel_rfl) (fun b4 w4 e4 h_b4 _ U4 => ?_)
  have na_rd1_b4 := rd1.apart e4
  have ne_b1_b4 : b1 ≠ b4 := by have := lt_get h_b1; omega
  have ge_b4 : w.heap.size ≤ b4 := by have := hF.size; omega
  replace rd1 := rd1.upd0 U4
  replace h_b1 := U4.get0 h_b1
  replace hF := hF.go0 U4
  clear e4
  refine store_intro (n := 4) (cs' := #[.int .i64 xa, .int .i64 xb, .slice xd xe xf, .int .i64 xc]) (by kernel_rfl) (by rfl) (by first | rfl | (simp [Value.cells, Value.oneCell', Gs.cv, Gs.fv]; done)) h_b4 (by first | exact Nat.le_of_ble_eq_true rfl | (simp; done) | omega) (by rfl) (fun w5 N5 _ U5 => ?_)
  replace rd1 := rd1.upd1 U5 na_rd1_b4
  replace h_b1 := U5.get1 h_b1 ne_b1_b4
  replace h_b4 := N5
  replace hF := hF.go1 U5 ge_b4
  refine opv_run (notF) ?_
  refine condt ?_
  exact ⟨rfl, hF⟩

/-- greenscreen/greenscreenlaw15.FieldTexts -/
theorem c_FieldTexts_big {r c : Int} {A : Option Addr} {n cp : Nat} {N : Nat} {cs : List Gs.Cell} {w : World} (rd1 : Rd w A (rows Gs.cv cs)) (hn : n = cs.length) (hnm : n ≤ 9223372036854775807){page : Int} (hN : Gs.cellsN r c = N) (hz : 120 < N) :
    Calls Try.prog 6 #[.agg #[.int .i64 r, .int .i64 c], .slice A n cp, .int .i64 page] w fun e w' => e = .returned (.bool true) ∧ Upd no w w' := by
  refine F6.calls ?_
  unfold F6
  have lt_rd1 := Rd.lt rd1
  have hF : Upd no w w := Fr.refl _ _ _
  refine box_intro (by rfl) (fun b1 w1 e1 h_b1 _ U1 => ?_)
  have na_rd1_b1 := rd1.apart e1
  have ge_b1 : w.heap.size ≤ b1 := by have := hF.size; omega
  replace rd1 := rd1.upd0 U1
  replace hF := hF.go0 U1
  clear e1
  refine callF_T (c_law15_alive) (rfl) (fun w2 U2 => ?_)
  replace rd1 := rd1.upd0 U2
  replace h_b1 := U2.get0 h_b1
  replace hF := hF.go0 U2
  refine opv_run (notT) ?_
  refine condf ?_
  refine opv_run (ldA (n := 2) (by kernel_rfl) h_b1 (by first | exact Nat.le_of_ble_eq_true rfl | (simp; done) | omega) (by rfl)) ?_
  refine callF_ex (c_made_big rd1 hn hnm hN hz) (fun v3 w3 D3 => ?_)
  obtain ⟨xa, xb, xc, xd, xe, xf, rfl, U3⟩ := D3
  replace rd1 := rd1.upd0 U3
  replace h_b1 := U3.get0 h_b1
  replace hF := hF.go0 U3
  refine opv_run (ext_t (by rfl)) ?_
  refine opv_run (ext_t (by rfl)) ?_
  refine opv_run (ext_t (by rfl)) ?_
  refine alloc_intro (cs := #[.int .i64 0, .int .i64 0, .slice none 0 0, .int .i64 0]) (by kernel_rfl) (fun b4 w4 e4 h_b4 _ U4 => ?_)
  have na_rd1_b4 := rd1.apart e4
  have ne_b1_b4 : b1 ≠ b4 := by have := lt_get h_b1; omega
  have ge_b4 : w.heap.size ≤ b4 := by have := hF.size; omega
  replace rd1 := rd1.upd0 U4
  replace h_b1 := U4.get0 h_b1
  replace hF := hF.go0 U4
  clear e4
  refine store_intro (n := 4) (cs' := #[.int .i64 xa, .int .i64 xb, .slice xd xe xf, .int .i64 xc]) (by kernel_rfl) (by rfl) (by first | rfl | (simp [Value.cells, Value.oneCell', Gs.cv, Gs.fv]; done)) h_b4 (by first | exact Nat.le_of_ble_eq_true rfl | (simp; done) | omega) (by rfl) (fun w5 N5 _ U5 => ?_)
  replace rd1 := rd1.upd1 U5 na_rd1_b4
  replace h_b1 := U5.get1 h_b1 ne_b1_b4
  replace h_b4 := N5
  replace hF := hF.go1 U5 ge_b4
  refine opv_run (notF) ?_
  refine condt ?_
  exact ⟨rfl, hF⟩

/-- greenscreen/greenscreenlaw15.FieldTexts -/
theorem c_FieldTexts_ok {r c : Int} {A : Option Addr} {n cp : Nat} {N : Nat} {cs : List Gs.Cell} {w : World} (rd1 : Rd w A (rows Gs.cv cs)) (hn : n = cs.length) (hnm : n ≤ 9223372036854775807){page : Int} (hcw : Gs.Cws cs) (hN : Gs.cellsN r c = N) (hz : N ≠ 0) (hz2 : N ≤ 120) :
    Calls Try.prog 6 #[.agg #[.int .i64 r, .int .i64 c], .slice A n cp, .int .i64 page] w fun e w' => e = .returned (.bool true) ∧ Upd no w w' := by
  refine F6.calls ?_
  unfold F6
  have lt_rd1 := Rd.lt rd1
  have hF : Upd no w w := Fr.refl _ _ _
  refine box_intro (by rfl) (fun b1 w1 e1 h_b1 _ U1 => ?_)
  have na_rd1_b1 := rd1.apart e1
  have ge_b1 : w.heap.size ≤ b1 := by have := hF.size; omega
  replace rd1 := rd1.upd0 U1
  replace hF := hF.go0 U1
  clear e1
  refine callF_T (c_law15_alive) (rfl) (fun w2 U2 => ?_)
  replace rd1 := rd1.upd0 U2
  replace h_b1 := U2.get0 h_b1
  replace hF := hF.go0 U2
  refine opv_run (notT) ?_
  refine condf ?_
  refine opv_run (ldA (n := 2) (by kernel_rfl) h_b1 (by first | exact Nat.le_of_ble_eq_true rfl | (simp; done) | omega) (by rfl)) ?_
  refine callF_ex (c_made_ok rd1 hn hnm hN hz hz2) (fun v3 w3 D3 => ?_)
  obtain ⟨bp, gp, gx, rfl, gbp, h_bp, own_p, own_x, npx, U3⟩ := D3
  have na_rd1_bp := (Rd.lt rd1).ne (b := bp) (by omega)
  have ne_b1_bp : b1 ≠ bp := by have := lt_get h_b1; omega
  have ge_bp : w.heap.size ≤ bp := by have := hF.size; omega
  have nx3_rd1_own_p : _ ∨ ∀ k, blkOf _ k → ¬ ownS _ k := (Rd.lt rd1).imp_right fun h k hk hs => by have := h k hk; have := (Own.ge own_p hs).1; omega
  have nx3_h_b1_own_p : ¬ ownS _ b1 := fun h => by have := (Own.ge own_p h).1; have := lt_get h_b1; omega
  replace own_p := own_p.mono (B' := w.heap.size) hF.size
  have nx3_rd1_own_x : _ ∨ ∀ k, blkOf _ k → ¬ ownS _ k := (Rd.lt rd1).imp_right fun h k hk hs => by have := h k hk; have := (Own.ge own_x hs).1; omega
  have nx3_h_b1_own_x : ¬ ownS _ b1 := fun h => by have := (Own.ge own_x h).1; have := lt_get h_b1; omega
  replace own_x := own_x.mono (B' := w.heap.size) hF.size
  replace rd1 := rd1.upd0 U3
  replace h_b1 := U3.get0 h_b1
  replace hF := hF.go0 U3
  obtain ⟨ps, hps⟩ : ∃ ps, ps = Gs.madeK N cs cs.length := ⟨_, rfl⟩
  rw [← hps] at own_p own_x
  have hpl : N = ps.length := by rw [hps, Gs.made_len]
  have hpw : Gs.Cws ps := by rw [hps]; exact Gs.made_w hcw _
  clear hps
  have hb4 : N ≤ 4096 := by omega
  have hal := Gs.allM_len ps
  have hsl := Gs.starts_len_le ps
  refine opv_run (ext_t (by rfl)) ?_
  refine opv_run (ext_t (by rfl)) ?_
  refine opv_run (ext_t (by rfl)) ?_
  refine alloc_intro (cs := #[.int .i64 0, .int .i64 0, .slice none 0 0, .int .i64 0]) (by kernel_rfl) (fun b4 w4 e4 h_b4 _ U4 => ?_)
  have na_rd1_b4 := rd1.apart e4
  have ne_b1_b4 : b1 ≠ b4 := by have := lt_get h_b1; omega
  have ne_bp_b4 : bp ≠ b4 := by have := lt_get h_bp; omega
  have na_own_p_b4 := own_p.apart e4
  have na_own_x_b4 := own_x.apart e4
  have ge_b4 : w.heap.size ≤ b4 := by have := hF.size; omega
  replace rd1 := rd1.upd0 U4
  replace own_p := own_p.upd0 U4
  replace own_x := own_x.upd0 U4
  replace h_b1 := U4.get0 h_b1
  replace h_bp := U4.get0 h_bp
  replace hF := hF.go0 U4
  clear e4
  refine store_intro (n := 4) (cs' := #[.int .i64 r, .int .i64 c, .slice (some ⟨gx, 0, none⟩) N N, .int .i64 0]) (by kernel_rfl) (by rfl) (by first | rfl | (simp [Value.cells, Value.oneCell', Gs.cv, Gs.fv]; done)) h_b4 (by first | exact Nat.le_of_ble_eq_true rfl | (simp; done) | omega) (by rfl) (fun w5 N5 _ U5 => ?_)
  replace rd1 := rd1.upd1 U5 na_rd1_b4
  replace own_p := own_p.upd1 U5 na_own_p_b4
  replace own_x := own_x.upd1 U5 na_own_x_b4
  replace h_b1 := U5.get1 h_b1 ne_b1_b4
  replace h_bp := U5.get1 h_bp ne_bp_b4
  replace h_b4 := N5
  replace hF := hF.go1 U5 ge_b4
  refine opv_run (notT) ?_
  refine condf ?_
  refine join_cut (fun g w' => (w'.heap[bp]? = some (.cells #[.int .i64 r, .int .i64 c, .slice (some ⟨gp, 0, none⟩) N N, .int .i64 0] 102 (0, 0))) ∧ (Own w.heap.size w' 45 5 (.slice (some ⟨gp, 0, none⟩) N N) (rows Gs.cv ps)) ∧ (Upd no w w')) (fun J1 hJ1 => ?_) (fun gJ1 wJ1 hI => ?_)
  · refine callF_ex (c_law15_all h_bp own_p hpl (m := 1000) hN hb4 hpw (by omega)) (fun v6 w6 D6 => ?_)
    obtain ⟨own25, U6⟩ := D6
    have nx6_rd1_own25 : _ ∨ ∀ k, blkOf _ k → ¬ ownS _ k := (Rd.lt rd1).imp_right fun h k hk hs => by have := h k hk; have := (Own.ge own25 hs).1; omega
    have nx6_h_b1_own25 : ¬ ownS _ b1 := fun h => by have := (Own.ge own25 h).1; have := lt_get h_b1; omega
    have nx6_h_bp_own25 : ¬ ownS _ bp := fun h => by have := (Own.ge own25 h).1; have := lt_get h_bp; omega
    have nx6_own_p_own25 : ∀ k, ownS _ k → ¬ ownS _ k := fun k hk hs => by have := (Own.ge own_p hk).2; have := (Own.ge own25 hs).1; omega
    have nx6_own_x_own25 : ∀ k, ownS _ k → ¬ ownS _ k := fun k hk hs => by have := (Own.ge own_x hk).2; have := (Own.ge own25 hs).1; omega
    have nx6_h_b4_own25 : ¬ ownS _ b4 := fun h => by have := (Own.ge own25 h).1; have := lt_get h_b4; omega
    replace own25 := own25.mono (B' := w.heap.size) hF.size
    replace rd1 := rd1.upd0 U6
    replace own_p := own_p.upd0 U6
    replace own_x := own_x.upd0 U6
    replace h_b1 := U6.get0 h_b1
    replace h_bp := U6.get0 h_bp
    replace h_b4 := U6.get0 h_b4
    replace hF := hF.go0 U6
    replace own25 := own25.mono (B' := w.heap.size) (by have := hF.size; omega)
    rw [List.take_of_length_le (by rw [Gs.allM_len]; omega)] at own25
    obtain ⟨A25, c25, rfl⟩ := Own.open Gs.encF own25
    refine opv_run (len_sl (by kernel_rfl) _ _ _) ?_
    refine loop_intro (fun g w' => ∃ (k : Nat), (g 27 = .int .i64 (k : Int)) ∧ (k ≤ (Gs.allM ps).length) ∧ (w'.heap[bp]? = some (.cells #[.int .i64 r, .int .i64 c, .slice (some ⟨gp, 0, none⟩) N N, .int .i64 0] 102 (0, 0))) ∧ (Own w.heap.size w' 45 5 (.slice (some ⟨gp, 0, none⟩) N N) (rows Gs.cv ps)) ∧ (Own w.heap.size w' 39 3 (.slice A25 (Gs.allM ps).length c25) (rows Gs.fv (Gs.allM ps))) ∧ (Upd no w w')) (fun g w' => (Gs.allM ps).length - (RowKit.intOf (g 27)).toNat) ?_ (fun g2 wl2 hI => ?_)
    · exact ⟨0, (by first | exact g27 | rfl), Nat.zero_le _, h_bp, own_p, own25, hF⟩
    · obtain ⟨k, g27, hk, h_bp, own_p, own25, hF⟩ := hI
      try rw [g27]
      refine opv_dec (lss _ _ _ _) (fun h7 => ?_) (fun h7 => ?_)
      · refine condt ?_
        refine join_cut (fun g w' => (w'.heap[bp]? = some (.cells #[.int .i64 r, .int .i64 c, .slice (some ⟨gp, 0, none⟩) N N, .int .i64 0] 102 (0, 0))) ∧ (Own w.heap.size w' 45 5 (.slice (some ⟨gp, 0, none⟩) N N) (rows Gs.cv ps)) ∧ (Own w.heap.size w' 39 3 (.slice A25 (Gs.allM ps).length c25) (rows Gs.fv (Gs.allM ps))) ∧ (Upd no w w')) (fun J3 hJ3 => ?_) (fun gJ3 wJ3 hI => ?_)
        · refine idx_rows Gs.encF (by kernel_rfl) (by kernel_rfl) own25.rdS (by first | rfl | assumption | omega) (by omega) (by omega) (fun x8 hx8 => ?_)
          try simp only [Int.toNat_natCast] at hx8
          have hxi := Gs.all_in hx8
          have hxa := Gs.all_a hpw hx8
          rw [← hpl] at hxi
          have hxm := Gs.mod_bd (x8.s + 1) (show 0 < N by omega)
          refine alloc_intro (cs := (Gs.fv Gs.zf).toArray) (by kernel_rfl) (fun b9 w9 e9 h_b9 _ U9 => ?_)
          have ne_bp_b9 : bp ≠ b9 := by have := lt_get h_bp; omega
          have na_own_p_b9 := own_p.apart e9
          have na_own25_b9 := own25.apart e9
          have ge_b9 : w.heap.size ≤ b9 := by have := hF.size; omega
          replace own_p := own_p.upd0 U9
          replace own25 := own25.upd0 U9
          replace h_bp := U9.get0 h_bp
          replace hF := hF.go0 U9
          clear e9
          refine store_intro (n := 3) (cs' := (Gs.fv x8).toArray) (by kernel_rfl) (by rfl) (by first | rfl | (simp [Value.cells, Value.oneCell', Gs.cv, Gs.fv]; done)) h_b9 (by first | exact Nat.le_of_ble_eq_true rfl | (simp; done) | omega) (by rfl) (fun w10 N10 _ U10 => ?_)
          replace own_p := own_p.upd1 U10 na_own_p_b9
          replace own25 := own25.upd1 U10 na_own25_b9
          replace h_bp := U10.get1 h_bp ne_bp_b9
          replace h_b9 := N10
          replace hF := hF.go1 U10 ge_b9
          refine drawn_S (S := no) (fun w11 U11 => ?_)
          replace own_p := own_p.upd0 U11
          replace own25 := own25.upd0 U11
          replace h_bp := U11.get0 h_bp
          replace h_b9 := U11.get0 h_b9
          replace hF := hF.go0 U11
          refine qop_run (fun w' hw' => (fieldAt_eq (off := 0) (by kernel_rfl))) ?_
          refine qop_run (fun w' hw' => by have h_b9 := hw'.get0 h_b9; exact (ldC (by kernel_rfl) h_b9 (by rfl))) ?_
          first | refine qop_run (fun w' hw' => (add_i64 _ (by omega))) ?_ | refine qop_run (fun w' hw' => (addI _ _ _ _)) ?_
          refine qop_call (fun w' hw' => by have h_bp := hw'.get0 h_bp; have own_p := own_p.upd0 hw'; exact c_Plane_Len h_bp own_p hpl) ?_
          refine qop_run (fun w' hw' => (remN _ (by omega) (by omega) (by omega))) ?_
          refine qop_run (fun w' hw' => (fieldAt_eq (off := 1) (by kernel_rfl))) ?_
          refine qop_run (fun w' hw' => by have h_b9 := hw'.get0 h_b9; exact (ldC (by kernel_rfl) h_b9 (by rfl))) ?_
          refine qop_call (fun w' hw' => by have h_bp := hw'.get0 h_bp; have own_p := own_p.upd0 hw'; exact c_Plane_Text h_bp own_p hpl (page := page) (f := (x8.s + 1) % (N : Int)) (m := x8.l) hpw (by omega) hb4) ?_
          refine ext_intro (fun w14 U14 => ?_)
          replace own_p := own_p.upd0 U14
          replace own25 := own25.upd0 U14
          replace h_bp := U14.get0 h_bp
          replace h_b9 := U14.get0 h_b9
          replace hF := hF.go0 U14
          refine join_cut (fun g w' => (g 12 = .string (runesBytes (Gs.textM page ps x8))) ∧ (w'.heap[bp]? = some (.cells #[.int .i64 r, .int .i64 c, .slice (some ⟨gp, 0, none⟩) N N, .int .i64 0] 102 (0, 0))) ∧ (Own w.heap.size w' 45 5 (.slice (some ⟨gp, 0, none⟩) N N) (rows Gs.cv ps)) ∧ (Own w.heap.size w' 39 3 (.slice A25 (Gs.allM ps).length c25) (rows Gs.fv (Gs.allM ps))) ∧ (w'.heap[b9]? = some (.cells (Gs.fv x8).toArray 39 (0, 0))) ∧ (Upd no w w')) (fun J4 hJ4 => ?_) (fun gJ4 wJ4 hI => ?_)
          · refine opv_run (fieldAt_eq (off := 2) (by kernel_rfl)) ?_
            refine opv_run (ldC (by kernel_rfl) h_b9 (by rfl)) ?_
            refine opv_run (and8_12 _ (by omega)) ?_
            refine opv_dec (eqI _ _ _ _ _) (fun h15 => ?_) (fun h15 => ?_)
            · refine condt ?_
              refine opv_run (fieldAt_eq (off := 1) (by kernel_rfl)) ?_
              refine opv_run (ldC (by kernel_rfl) h_b9 (by rfl)) ?_
              refine loop_intro (fun g w' => ∃ (k : Nat), (g 48 = .int .i64 (k : Nat)) ∧ ((k : Int) ≤ x8.l) ∧ (g 12 = .string (runesBytes (List.replicate k 32))) ∧ (w'.heap[bp]? = some (.cells #[.int .i64 r, .int .i64 c, .slice (some ⟨gp, 0, none⟩) N N, .int .i64 0] 102 (0, 0))) ∧ (Own w.heap.size w' 45 5 (.slice (some ⟨gp, 0, none⟩) N N) (rows Gs.cv ps)) ∧ (Own w.heap.size w' 39 3 (.slice A25 (Gs.allM ps).length c25) (rows Gs.fv (Gs.allM ps))) ∧ (w'.heap[b9]? = some (.cells (Gs.fv x8).toArray 39 (0, 0))) ∧ (Upd no w w')) (fun g w' => x8.l.toNat - (RowKit.intOf (g 48)).toNat) ?_ (fun g5 wl5 hI => ?_)
              · exact ⟨0, rfl, (by omega), rfl, h_bp, own_p, own25, h_b9, hF⟩
              · obtain ⟨k, g48, hk, g12, h_bp, own_p, own25, h_b9, hF⟩ := hI
                try rw [g48]
                try rw [g12]
                have hbs := Gs.blank_size k
                refine opv_dec (lss _ _ _ _) (fun h16 => ?_) (fun h16 => ?_)
                · refine condt ?_
                  refine opv_run (addS (by first | assumption | omega | (simp only [str_size, List.length_append, List.length_cons, List.length_nil]; omega) | simp [*])) ?_
                  first | refine opv_run (add_i64 _ (by omega)) ?_ | refine opv_run (addI _ _ _ _) ?_
                  exact ⟨⟨k + 1, rfl, (by omega), (congrArg Value.string (Gs.blank_step k)), h_bp, own_p, own25, h_b9, hF⟩, cnt_lt (by first | rfl | exact g48) rfl (by omega)⟩
                · refine condf ?_
                  refine hJ4 _ _ ?_
                  exact ⟨(by first | exact congrArg Value.string (by rw [hpl]; exact Gs.text_mid hx8 (by omega)) | (rw [← Gs.text_blank (n := k) hx8 (by omega) (by omega)]; exact g12)), h_bp, own_p, own25, h_b9, hF⟩
            · refine condf ?_
              refine hJ4 _ _ ?_
              exact ⟨(by first | exact congrArg Value.string (by rw [hpl]; exact Gs.text_mid hx8 (by omega)) | (rw [← Gs.text_blank (n := k) hx8 (by omega) (by omega)]; exact g12)), h_bp, own_p, own25, h_b9, hF⟩
          · obtain ⟨g12, h_bp, own_p, own25, h_b9, hF⟩ := hI
            try rw [g12]
            refine drawn_S (S := no) (fun w17 U17 => ?_)
            replace own_p := own_p.upd0 U17
            replace own25 := own25.upd0 U17
            replace h_bp := U17.get0 h_bp
            replace h_b9 := U17.get0 h_b9
            replace hF := hF.go0 U17
            refine qop_run (fun w' hw' => by have h_b9 := hw'.get0 h_b9; exact (ldA (n := 3) (cs' := (Gs.fv x8).toArray) (by kernel_rfl) h_b9 (by first | exact Nat.le_of_ble_eq_true rfl | (simp; done) | omega) (by rfl))) ?_
            refine qop_call (fun w' hw' => by have h_bp := hw'.get0 h_bp; have own_p := own_p.upd0 hw'; exact c_field_Text h_bp own_p hpl (page := page) (f := x8) hN hb4 (by omega) hpw hxa) ?_
            refine qop_F (fun w' hw' => (neS _ _ _ _)) (fun hne => hne rfl) ?_
            refine qgdff ?_
            refine qmove ?_
            refine qgdff ?_
            refine qop_run (fun w' hw' => by have h_b9 := hw'.get0 h_b9; exact (ldA (n := 3) (cs' := (Gs.fv x8).toArray) (by kernel_rfl) h_b9 (by first | exact Nat.le_of_ble_eq_true rfl | (simp; done) | omega) (by rfl))) ?_
            refine qgdff ?_
            refine qop_run (fun w' hw' => (fieldAt_eq (off := 1) (by kernel_rfl))) ?_
            refine qgdff ?_
            refine qop_run (fun w' hw' => by have h_b9 := hw'.get0 h_b9; exact (ldC (by kernel_rfl) h_b9 (by rfl))) ?_
            refine ext_intro (fun w19 U19 => ?_)
            replace own_p := own_p.upd0 U19
            replace own25 := own25.upd0 U19
            replace h_bp := U19.get0 h_bp
            replace h_b9 := U19.get0 h_b9
            replace hF := hF.go0 U19
            refine lop_i ?_
            refine gdff ?_
            refine callF_ex (c_field_Data h_bp own_p hpl (f := x8) hN hb4 hpw) (fun v20 w20 D20 => ?_)
            obtain ⟨own62, U20⟩ := D20
            have nx20_h_bp_own62 : ¬ ownS _ bp := fun h => by have := (Own.ge own62 h).1; have := lt_get h_bp; omega
            have nx20_own_p_own62 : ∀ k, ownS _ k → ¬ ownS _ k := fun k hk hs => by have := (Own.ge own_p hk).2; have := (Own.ge own62 hs).1; omega
            have nx20_own25_own62 : ∀ k, ownS _ k → ¬ ownS _ k := fun k hk hs => by have := (Own.ge own25 hk).2; have := (Own.ge own62 hs).1; omega
            have nx20_h_b9_own62 : ¬ ownS _ b9 := fun h => by have := (Own.ge own62 h).1; have := lt_get h_b9; omega
            replace own62 := own62.mono (B' := w.heap.size) hF.size
            replace own_p := own_p.upd0 U20
            replace own25 := own25.upd0 U20
            replace h_bp := U20.get0 h_bp
            replace h_b9 := U20.get0 h_b9
            replace hF := hF.go0 U20
            obtain ⟨A62, c62, rfl, _⟩ := own62.rd1
            refine ⟨U20, ?_⟩
            refine qgdff ?_
            refine qop_run (fun w' hw' => (len_sl (by kernel_rfl) _ _ _)) ?_
            refine qgdff ?_
            refine qop_F (fun w' hw' => (neI _ _ _ _ _)) (fun hne => hne (Gs.all_data hx8)) ?_
            refine qpickf ?_
            refine ext_intro (fun w21 U21 => ?_)
            replace own_p := own_p.upd0 U21
            replace own25 := own25.upd0 U21
            replace own62 := own62.upd0 U21
            replace h_bp := U21.get0 h_bp
            replace h_b9 := U21.get0 h_b9
            replace hF := hF.go0 U21
            refine condf ?_
            refine hJ3 _ _ ?_
            exact ⟨h_bp, own_p, own25, hF⟩
        · obtain ⟨h_bp, own_p, own25, hF⟩ := hI
          first | refine opv_run (add_i64 _ (by omega)) ?_ | refine opv_run (addI _ _ _ _) ?_
          exact ⟨⟨k + 1, (by first | exact g27 | rfl), by omega, h_bp, own_p, own25, hF⟩, cnt_lt (by first | rfl | exact g27) rfl (by omega)⟩
      · refine condf ?_
        refine hJ1 _ _ ?_
        exact ⟨h_bp, own_p, hF⟩
  · obtain ⟨h_bp, own_p, hF⟩ := hI
    exact ⟨rfl, hF⟩

end Go.Proofs.Ytojcbhkhfcddnaa
