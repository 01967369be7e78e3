/-
  Contracts of functions of the program, walked over their shallow forms. No condition but the ones that each states.
-/
import Derived.Test.YtojcbhkhfcddnaaFi
import Derived.Test.YtojcbhkhfcddnaaFieldLaws5
import Derived.Test.YtojcbhkhfcddnaaMapV
namespace Go.Proofs.Ytojcbhkhfcddnaa
open Go Go.Sh
set_option linter.unusedVariables false
set_option maxRecDepth 100000


/-- greenscreen/greenscreenlaw15.FieldParts -/
theorem c_FieldParts_0 {r c : Int} {A : Option Addr} {n cp : Nat} {N : Nat} {cs : List Gs.Cell} {w : World} (rd1 : Rd w A (rows Gs.cv cs)) (hn : n = cs.length) (hnm : n ≤ 9223372036854775807) (hz : Gs.cellsN r c = 0) :
    Calls Try.prog 4 #[.agg #[.int .i64 r, .int .i64 c], .slice A n cp] w fun e w' => e = .returned (.bool true) ∧ Upd no w w' := by
  refine F4.calls ?_
  unfold F4
  have lt_rd1 := Rd.lt rd1
  have hF : Upd no w w := Fr.refl _ _ _
  refine box_intro (by rfl) (fun b1 w1 e1 h_b1 _ U1 => ?_)
  have na_rd1_b1 := rd1.apart e1
  have ge_b1 : w.heap.size ≤ b1 := by have := hF.size; omega
  replace rd1 := rd1.upd0 U1
  replace hF := hF.go0 U1
  clear e1
  refine callF_T (c_law15_alive) (rfl) (fun w2 U2 => ?_)
  replace rd1 := rd1.upd0 U2
  replace h_b1 := U2.get0 h_b1
  replace hF := hF.go0 U2
  refine opv_run (notT) ?_
  refine condf ?_
  refine opv_run (ldA (n := 2) (by kernel_rfl) h_b1 (by first | exact Nat.le_of_ble_eq_true rfl | (simp; done) | omega) (by rfl)) ?_
  refine callF_ex (c_made_0 rd1 hn hnm hz) (fun v3 w3 D3 => ?_)
  obtain ⟨xa, xb, xc, xd, xe, xf, rfl, U3⟩ := D3
  replace rd1 := rd1.upd0 U3
  replace h_b1 := U3.get0 h_b1
  replace hF := hF.go0 U3
  refine opv_run (ext_t (by rfl)) ?_
  refine opv_run (ext_t (by rfl)) ?_
  refine opv_run (ext_t (by rfl)) ?_
  refine alloc_intro (cs := #[.int .i64 0, .int .i64 0, .slice none 0 0, .int .i64 0]) (by kernel_rfl) (fun b4 w4 e4 h_b4 _ U4 => ?_)
  have na_rd1_b4 := rd1.apart e4
  have ne_b1_b4 : b1 ≠ b4 := by have := lt_get h_b1; omega
  have ge_b4 : w.heap.size ≤ b4 := by have := hF.size; omega
  replace rd1 := rd1.upd0 U4
  replace h_b1 := U4.get0 h_b1
  replace hF := hF.go0 U4
  clear e4
  refine store_intro (n := 4) (cs' := #[.int .i64 xa, .int .i64 xb, .slice xd xe xf, .int .i64 xc]) (by kernel_rfl) (by rfl) (by first | rfl | (simp [Value.cells, Value.oneCell', Gs.cv, Gs.fv]; done)) h_b4 (by first | exact Nat.le_of_ble_eq_true rfl | (simp; done) | omega) (by rfl) (fun w5 N5 _ U5 => ?_)
  replace rd1 := rd1.upd1 U5 na_rd1_b4
  replace h_b1 := U5.get1 h_b1 ne_b1_b4
  replace h_b4 := N5
  replace hF := hF.go1 U5 ge_b4
  refine opv_run (notF) ?_
  refine condt ?_
  exact ⟨rfl, hF⟩

/-- greenscreen/greenscreenlaw15.FieldParts -/
theorem c_FieldParts_big {r c : Int} {A : Option Addr} {n cp : Nat} {N : Nat} {cs : List Gs.Cell} {w : World} (rd1 : Rd w A (rows Gs.cv cs)) (hn : n = cs.length) (hnm : n ≤ 9223372036854775807) (hN : Gs.cellsN r c = N) (hz : 120 < N) :
    Calls Try.prog 4 #[.agg #[.int .i64 r, .int .i64 c], .slice A n cp] w fun e w' => e = .returned (.bool true) ∧ Upd no w w' := by
  refine F4.calls ?_
  unfold F4
  have lt_rd1 := Rd.lt rd1
  have hF : Upd no w w := Fr.refl _ _ _
  refine box_intro (by rfl) (fun b1 w1 e1 h_b1 _ U1 => ?_)
  have na_rd1_b1 := rd1.apart e1
  have ge_b1 : w.heap.size ≤ b1 := by have := hF.size; omega
  replace rd1 := rd1.upd0 U1
  replace hF := hF.go0 U1
  clear e1
  refine callF_T (c_law15_alive) (rfl) (fun w2 U2 => ?_)
  replace rd1 := rd1.upd0 U2
  replace h_b1 := U2.get0 h_b1
  replace hF := hF.go0 U2
  refine opv_run (notT) ?_
  refine condf ?_
  refine opv_run (ldA (n := 2) (by kernel_rfl) h_b1 (by first | exact Nat.le_of_ble_eq_true rfl | (simp; done) | omega) (by rfl)) ?_
  refine callF_ex (c_made_big rd1 hn hnm hN hz) (fun v3 w3 D3 => ?_)
  obtain ⟨xa, xb, xc, xd, xe, xf, rfl, U3⟩ := D3
  replace rd1 := rd1.upd0 U3
  replace h_b1 := U3.get0 h_b1
  replace hF := hF.go0 U3
  refine opv_run (ext_t (by rfl)) ?_
  refine opv_run (ext_t (by rfl)) ?_
  refine opv_run (ext_t (by rfl)) ?_
  refine alloc_intro (cs := #[.int .i64 0, .int .i64 0, .slice none 0 0, .int .i64 0]) (by kernel_rfl) (fun b4 w4 e4 h_b4 _ U4 => ?_)
  have na_rd1_b4 := rd1.apart e4
  have ne_b1_b4 : b1 ≠ b4 := by have := lt_get h_b1; omega
  have ge_b4 : w.heap.size ≤ b4 := by have := hF.size; omega
  replace rd1 := rd1.upd0 U4
  replace h_b1 := U4.get0 h_b1
  replace hF := hF.go0 U4
  clear e4
  refine store_intro (n := 4) (cs' := #[.int .i64 xa, .int .i64 xb, .slice xd xe xf, .int .i64 xc]) (by kernel_rfl) (by rfl) (by first | rfl | (simp [Value.cells, Value.oneCell', Gs.cv, Gs.fv]; done)) h_b4 (by first | exact Nat.le_of_ble_eq_true rfl | (simp; done) | omega) (by rfl) (fun w5 N5 _ U5 => ?_)
  replace rd1 := rd1.upd1 U5 na_rd1_b4
  replace h_b1 := U5.get1 h_b1 ne_b1_b4
  replace h_b4 := N5
  replace hF := hF.go1 U5 ge_b4
  refine opv_run (notF) ?_
  refine condt ?_
  exact ⟨rfl, hF⟩

set_option maxHeartbeats 2000000 in
/-- greenscreen/greenscreenlaw15.FieldParts -/
theorem c_FieldParts_ok {r c : Int} {A : Option Addr} {n cp : Nat} {N : Nat} {cs : List Gs.Cell} {w : World} (rd1 : Rd w A (rows Gs.cv cs)) (hn : n = cs.length) (hnm : n ≤ 9223372036854775807) (hcw : Gs.Cws cs) (hN : Gs.cellsN r c = N) (hz : N ≠ 0) (hz2 : N ≤ 120) :
    Calls Try.prog 4 #[.agg #[.int .i64 r, .int .i64 c], .slice A n cp] w fun e w' => e = .returned (.bool true) ∧ Upd no w w' := by
  refine F4.calls ?_
  unfold F4
  have lt_rd1 := Rd.lt rd1
  have hF : Upd no w w := Fr.refl _ _ _
  refine box_intro (by rfl) (fun b1 w1 e1 h_b1 _ U1 => ?_)
  have na_rd1_b1 := rd1.apart e1
  have ge_b1 : w.heap.size ≤ b1 := by have := hF.size; omega
  replace rd1 := rd1.upd0 U1
  replace hF := hF.go0 U1
  clear e1
  refine callF_T (c_law15_alive) (rfl) (fun w2 U2 => ?_)
  replace rd1 := rd1.upd0 U2
  replace h_b1 := U2.get0 h_b1
  replace hF := hF.go0 U2
  refine opv_run (notT) ?_
  refine condf ?_
  refine opv_run (ldA (n := 2) (by kernel_rfl) h_b1 (by first | exact Nat.le_of_ble_eq_true rfl | (simp; done) | omega) (by rfl)) ?_
  refine callF_ex (c_made_ok rd1 hn hnm hN hz hz2) (fun v3 w3 D3 => ?_)
  obtain ⟨bp, gp, gx, rfl, gbp, h_bp, own_p, own_x, npx, U3⟩ := D3
  have na_rd1_bp := (Rd.lt rd1).ne (b := bp) (by omega)
  have ne_b1_bp : b1 ≠ bp := by have := lt_get h_b1; omega
  have ge_bp : w.heap.size ≤ bp := by have := hF.size; omega
  have nx3_rd1_own_p : _ ∨ ∀ k, blkOf _ k → ¬ ownS _ k := (Rd.lt rd1).imp_right fun h k hk hs => by have := h k hk; have := (Own.ge own_p hs).1; omega
  have nx3_h_b1_own_p : ¬ ownS _ b1 := fun h => by have := (Own.ge own_p h).1; have := lt_get h_b1; omega
  replace own_p := own_p.mono (B' := w.heap.size) hF.size
  have nx3_rd1_own_x : _ ∨ ∀ k, blkOf _ k → ¬ ownS _ k := (Rd.lt rd1).imp_right fun h k hk hs => by have := h k hk; have := (Own.ge own_x hs).1; omega
  have nx3_h_b1_own_x : ¬ ownS _ b1 := fun h => by have := (Own.ge own_x h).1; have := lt_get h_b1; omega
  replace own_x := own_x.mono (B' := w.heap.size) hF.size
  replace rd1 := rd1.upd0 U3
  replace h_b1 := U3.get0 h_b1
  replace hF := hF.go0 U3
  obtain ⟨ps, hps⟩ : ∃ ps, ps = Gs.madeK N cs cs.length := ⟨_, rfl⟩
  rw [← hps] at own_p own_x
  have hpl : N = ps.length := by rw [hps, Gs.made_len]
  have hpw : Gs.Cws ps := by rw [hps]; exact Gs.made_w hcw _
  clear hps
  have hb4 : N ≤ 4096 := by omega
  have hal := Gs.allM_len ps
  have hsl := Gs.starts_len_le ps
  refine opv_run (ext_t (by rfl)) ?_
  refine opv_run (ext_t (by rfl)) ?_
  refine opv_run (ext_t (by rfl)) ?_
  refine alloc_intro (cs := #[.int .i64 0, .int .i64 0, .slice none 0 0, .int .i64 0]) (by kernel_rfl) (fun b4 w4 e4 h_b4 _ U4 => ?_)
  have na_rd1_b4 := rd1.apart e4
  have ne_b1_b4 : b1 ≠ b4 := by have := lt_get h_b1; omega
  have ne_bp_b4 : bp ≠ b4 := by have := lt_get h_bp; omega
  have na_own_p_b4 := own_p.apart e4
  have na_own_x_b4 := own_x.apart e4
  have ge_b4 : w.heap.size ≤ b4 := by have := hF.size; omega
  replace rd1 := rd1.upd0 U4
  replace own_p := own_p.upd0 U4
  replace own_x := own_x.upd0 U4
  replace h_b1 := U4.get0 h_b1
  replace h_bp := U4.get0 h_bp
  replace hF := hF.go0 U4
  clear e4
  refine store_intro (n := 4) (cs' := #[.int .i64 r, .int .i64 c, .slice (some ⟨gx, 0, none⟩) N N, .int .i64 0]) (by kernel_rfl) (by rfl) (by first | rfl | (simp [Value.cells, Value.oneCell', Gs.cv, Gs.fv]; done)) h_b4 (by first | exact Nat.le_of_ble_eq_true rfl | (simp; done) | omega) (by rfl) (fun w5 N5 _ U5 => ?_)
  replace rd1 := rd1.upd1 U5 na_rd1_b4
  replace own_p := own_p.upd1 U5 na_own_p_b4
  replace own_x := own_x.upd1 U5 na_own_x_b4
  replace h_b1 := U5.get1 h_b1 ne_b1_b4
  replace h_bp := U5.get1 h_bp ne_bp_b4
  replace h_b4 := N5
  replace hF := hF.go1 U5 ge_b4
  refine opv_run (notT) ?_
  refine condf ?_
  refine makeMap_intro (k := .i64) (fun b6 w6 e6 h_b6 _ U6 => ?_)
  have na_rd1_b6 := rd1.apart e6
  have ne_b1_b6 : b1 ≠ b6 := by have := lt_get h_b1; omega
  have ne_bp_b6 : bp ≠ b6 := by have := lt_get h_bp; omega
  have na_own_p_b6 := own_p.apart e6
  have na_own_x_b6 := own_x.apart e6
  have ne_b4_b6 : b4 ≠ b6 := by have := lt_get h_b4; omega
  have ge_b6 : w.heap.size ≤ b6 := by have := hF.size; omega
  replace rd1 := rd1.upd0 U6
  replace own_p := own_p.upd0 U6
  replace own_x := own_x.upd0 U6
  replace h_b1 := U6.get0 h_b1
  replace h_bp := U6.get0 h_bp
  replace h_b4 := U6.get0 h_b4
  replace hF := hF.go0 U6
  clear e6
  refine join_cut (fun g w' => (g 9 = .int .i64 ((Gs.jM ps (Gs.allM ps).length : Nat) : Int)) ∧ (w'.heap[bp]? = some (.cells #[.int .i64 r, .int .i64 c, .slice (some ⟨gp, 0, none⟩) N N, .int .i64 0] 102 (0, 0))) ∧ (Own w.heap.size w' 45 5 (.slice (some ⟨gp, 0, none⟩) N N) (rows Gs.cv ps)) ∧ (MapI w' .i64 b6 (Gs.vis ps (Gs.jM ps (Gs.allM ps).length))) ∧ (Upd no w w')) (fun J1 hJ1 => ?_) (fun gJ1 wJ1 hI => ?_)
  · refine callF_ex (c_law15_all h_bp own_p hpl (m := 1000) hN hb4 hpw (by omega)) (fun v7 w7 D7 => ?_)
    obtain ⟨own33, U7⟩ := D7
    have nx7_rd1_own33 : _ ∨ ∀ k, blkOf _ k → ¬ ownS _ k := (Rd.lt rd1).imp_right fun h k hk hs => by have := h k hk; have := (Own.ge own33 hs).1; omega
    have nx7_h_b1_own33 : ¬ ownS _ b1 := fun h => by have := (Own.ge own33 h).1; have := lt_get h_b1; omega
    have nx7_h_bp_own33 : ¬ ownS _ bp := fun h => by have := (Own.ge own33 h).1; have := lt_get h_bp; omega
    have nx7_own_p_own33 : ∀ k, ownS _ k → ¬ ownS _ k := fun k hk hs => by have := (Own.ge own_p hk).2; have := (Own.ge own33 hs).1; omega
    have nx7_own_x_own33 : ∀ k, ownS _ k → ¬ ownS _ k := fun k hk hs => by have := (Own.ge own_x hk).2; have := (Own.ge own33 hs).1; omega
    have nx7_h_b4_own33 : ¬ ownS _ b4 := fun h => by have := (Own.ge own33 h).1; have := lt_get h_b4; omega
    replace own33 := own33.mono (B' := w.heap.size) hF.size
    replace rd1 := rd1.upd0 U7
    replace own_p := own_p.upd0 U7
    replace own_x := own_x.upd0 U7
    replace h_b6 := h_b6.upd0 U7
    replace h_b1 := U7.get0 h_b1
    replace h_bp := U7.get0 h_bp
    replace h_b4 := U7.get0 h_b4
    replace hF := hF.go0 U7
    replace own33 := own33.mono (B' := w.heap.size) (by have := hF.size; omega)
    rw [List.take_of_length_le (by rw [Gs.allM_len]; omega)] at own33
    obtain ⟨A33, c33, rfl⟩ := Own.open Gs.encF own33
    refine opv_run (len_sl (by kernel_rfl) _ _ _) ?_
    refine loop_intro (fun g w' => ∃ (k : Nat), (g 35 = .int .i64 (k : Int)) ∧ (k ≤ (Gs.allM ps).length) ∧ (g 9 = .int .i64 ((Gs.jM ps k : Nat) : Int)) ∧ (w'.heap[bp]? = some (.cells #[.int .i64 r, .int .i64 c, .slice (some ⟨gp, 0, none⟩) N N, .int .i64 0] 102 (0, 0))) ∧ (Own w.heap.size w' 45 5 (.slice (some ⟨gp, 0, none⟩) N N) (rows Gs.cv ps)) ∧ (Own w.heap.size w' 39 3 (.slice A33 (Gs.allM ps).length c33) (rows Gs.fv (Gs.allM ps))) ∧ (MapI w' .i64 b6 (Gs.vis ps (Gs.jM ps k))) ∧ (Upd no w w')) (fun g w' => (Gs.allM ps).length - (RowKit.intOf (g 35)).toNat) ?_ (fun g2 wl2 hI => ?_)
    · exact ⟨0, (by first | exact g35 | rfl), Nat.zero_le _, (by rw [Gs.jM_0]; rfl), h_bp, own_p, own33, (by rw [Gs.jM_0]; exact h_b6), hF⟩
    · obtain ⟨k, g35, hk, g9, h_bp, own_p, own33, h_b6, hF⟩ := hI
      try rw [g35]
      try rw [g9]
      have hjl := Gs.jM_le ps k
      refine opv_dec (lss _ _ _ _) (fun h8 => ?_) (fun h8 => ?_)
      · refine condt ?_
        refine join_cut (fun g w' => (g 9 = .int .i64 ((Gs.jM ps (k + 1) : Nat) : Int)) ∧ (w'.heap[bp]? = some (.cells #[.int .i64 r, .int .i64 c, .slice (some ⟨gp, 0, none⟩) N N, .int .i64 0] 102 (0, 0))) ∧ (Own w.heap.size w' 45 5 (.slice (some ⟨gp, 0, none⟩) N N) (rows Gs.cv ps)) ∧ (Own w.heap.size w' 39 3 (.slice A33 (Gs.allM ps).length c33) (rows Gs.fv (Gs.allM ps))) ∧ (MapI w' .i64 b6 (Gs.vis ps (Gs.jM ps (k + 1)))) ∧ (Upd no w w')) (fun J3 hJ3 => ?_) (fun gJ3 wJ3 hI => ?_)
        · refine idx_rows Gs.encF (by kernel_rfl) (by kernel_rfl) own33.rdS (by first | rfl | assumption | omega) (by omega) (by omega) (fun x9 hx9 => ?_)
          try simp only [Int.toNat_natCast] at hx9
          have hjs := Gs.jM_step hx9
          have hjl2 := Gs.jM_le ps (k + 1)
          rw [← hpl] at hjs
          refine alloc_intro (cs := (Gs.fv Gs.zf).toArray) (by kernel_rfl) (fun b10 w10 e10 h_b10 _ U10 => ?_)
          have ne_bp_b10 : bp ≠ b10 := by have := lt_get h_bp; omega
          have na_own_p_b10 := own_p.apart e10
          have na_own33_b10 := own33.apart e10
          have na_h_b6_b10 := h_b6.apart e10
          have ge_b10 : w.heap.size ≤ b10 := by have := hF.size; omega
          replace own_p := own_p.upd0 U10
          replace own33 := own33.upd0 U10
          replace h_b6 := h_b6.upd0 U10
          replace h_bp := U10.get0 h_bp
          replace hF := hF.go0 U10
          clear e10
          refine store_intro (n := 3) (cs' := (Gs.fv x9).toArray) (by kernel_rfl) (by rfl) (by first | rfl | (simp [Value.cells, Value.oneCell', Gs.cv, Gs.fv]; done)) h_b10 (by first | exact Nat.le_of_ble_eq_true rfl | (simp; done) | omega) (by rfl) (fun w11 N11 _ U11 => ?_)
          replace own_p := own_p.upd1 U11 na_own_p_b10
          replace own33 := own33.upd1 U11 na_own33_b10
          replace h_b6 := h_b6.upd1 U11 na_h_b6_b10
          replace h_bp := U11.get1 h_bp ne_bp_b10
          replace h_b10 := N11
          replace hF := hF.go1 U11 ge_b10
          refine opv_run (fieldAt_eq (off := 0) (by kernel_rfl)) ?_
          refine opv_run (ldC (by kernel_rfl) h_b10 (by rfl)) ?_
          refine opv_run (ldA (n := 3) (cs' := (Gs.fv x9).toArray) (by kernel_rfl) h_b10 (by first | exact Nat.le_of_ble_eq_true rfl | (simp; done) | omega) (by rfl)) ?_
          refine mapUpdate_int (kt := 3) (e := 39) (by kernel_rfl) h_b6 (fun w12 N12 _ U12 => ?_)
          replace own_p := own_p.upd1 U12 na_own_p_b6
          replace own33 := own33.upd1 U12 (Own.not_mapI own33 (by assumption))
          replace h_b6 := N12
          replace h_bp := U12.get1 h_bp ne_bp_b6
          replace h_b10 := U12.get1 h_b10 (by first | omega | exact blk_ne (by assumption) (by assumption) (by decide) | exact blk_not_loop (by assumption) (by assumption) (by assumption) | exact Ne.symm (blk_not_loop (by assumption) (by assumption) (by assumption)) | exact blk_not_def (by assumption) (by assumption) | exact Ne.symm (blk_not_def (by assumption) (by assumption)) | exact def_ne_blk (by assumption) (by assumption) | exact Ne.symm (def_ne_blk (by assumption) (by assumption)))
          replace hF := hF.go1 U12 ge_b6
          first | refine opv_run (add_i64 _ (by omega)) ?_ | refine opv_run (addI _ _ _ _) ?_
          refine opv_run (ldA (n := 3) (cs' := (Gs.fv x9).toArray) (by kernel_rfl) h_b10 (by first | exact Nat.le_of_ble_eq_true rfl | (simp; done) | omega) (by rfl)) ?_
          refine callF_ex (c_law15_places h_bp own_p hpl (f := x9) (m := 1000) hN hb4 (by omega)) (fun v13 w13 D13 => ?_)
          obtain ⟨own47, U13⟩ := D13
          have nx13_h_bp_own47 : ¬ ownS _ bp := fun h => by have := (Own.ge own47 h).1; have := lt_get h_bp; omega
          have nx13_own_p_own47 : ∀ k, ownS _ k → ¬ ownS _ k := fun k hk hs => by have := (Own.ge own_p hk).2; have := (Own.ge own47 hs).1; omega
          have nx13_own33_own47 : ∀ k, ownS _ k → ¬ ownS _ k := fun k hk hs => by have := (Own.ge own33 hk).2; have := (Own.ge own47 hs).1; omega
          have nx13_h_b10_own47 : ¬ ownS _ b10 := fun h => by have := (Own.ge own47 h).1; have := lt_get h_b10; omega
          replace own47 := own47.mono (B' := w.heap.size) hF.size
          replace own_p := own_p.upd0 U13
          replace own33 := own33.upd0 U13
          replace h_b6 := h_b6.upd0 U13
          replace h_bp := U13.get0 h_bp
          replace h_b10 := U13.get0 h_b10
          replace hF := hF.go0 U13
          rw [List.take_of_length_le (by have := Gs.places_le N x9; omega)] at own47
          obtain ⟨A47, c47, rfl, _⟩ := own47.rd1
          refine opv_run (len_sl (by kernel_rfl) _ _ _) ?_
          refine loop_intro (fun g w' => ∃ (k2 : Nat), (g 49 = .int .i64 (k2 : Int)) ∧ (k2 ≤ (Gs.placesL N x9).length) ∧ (g 9 = .int .i64 ((Gs.jM ps k + 1 + k2 : Nat) : Int)) ∧ (w'.heap[bp]? = some (.cells #[.int .i64 r, .int .i64 c, .slice (some ⟨gp, 0, none⟩) N N, .int .i64 0] 102 (0, 0))) ∧ (Own w.heap.size w' 45 5 (.slice (some ⟨gp, 0, none⟩) N N) (rows Gs.cv ps)) ∧ (Own w.heap.size w' 39 3 (.slice A33 (Gs.allM ps).length c33) (rows Gs.fv (Gs.allM ps))) ∧ (Own w.heap.size w' 3 1 (.slice A47 (Gs.placesL N x9).length c47) (vals .i64 (Gs.placesL N x9))) ∧ (w'.heap[b10]? = some (.cells (Gs.fv x9).toArray 39 (0, 0))) ∧ (MapI w' .i64 b6 (Gs.vis ps (Gs.jM ps k + 1 + k2))) ∧ (Upd no w w')) (fun g w' => (Gs.placesL N x9).length - (RowKit.intOf (g 49)).toNat) ?_ (fun g4 wl4 hI => ?_)
          · exact ⟨0, rfl, (Nat.zero_le _), (by first | exact g9 | rfl), h_bp, own_p, own33, own47, h_b10, (by rw [Nat.add_zero, ← Gs.partA hx9]; exact h_b6), hF⟩
          · obtain ⟨k2, g49, hk2, g9, h_bp, own_p, own33, own47, h_b10, h_b6, hF⟩ := hI
            try rw [g49]
            try rw [g9]
            refine opv_dec (lss _ _ _ _) (fun h14 => ?_) (fun h14 => ?_)
            · refine condt ?_
              refine idx_int (by kernel_rfl) (by kernel_rfl) own47.rdS (by first | rfl | assumption | omega | (simp; done) | (simp [vals_length, *]; done) | (simp [vals_length] at *; omega)) (by omega) (by omega) (fun x15 hx15 => ?_)
              try simp only [Int.toNat_natCast] at hx15
              refine opv_run (ldA (n := 3) (cs' := (Gs.fv x9).toArray) (by kernel_rfl) h_b10 (by first | exact Nat.le_of_ble_eq_true rfl | (simp; done) | omega) (by rfl)) ?_
              refine mapUpdate_int (kt := 3) (e := 39) (by kernel_rfl) h_b6 (fun w16 N16 _ U16 => ?_)
              replace own_p := own_p.upd1 U16 na_own_p_b6
              replace own33 := own33.upd1 U16 (Own.not_mapI own33 (by assumption))
              replace own47 := own47.upd1 U16 (Own.not_mapI own47 (by assumption))
              replace h_b6 := N16
              replace h_bp := U16.get1 h_bp ne_bp_b6
              replace h_b10 := U16.get1 h_b10 (by first | omega | exact blk_ne (by assumption) (by assumption) (by decide) | exact blk_not_loop (by assumption) (by assumption) (by assumption) | exact Ne.symm (blk_not_loop (by assumption) (by assumption) (by assumption)) | exact blk_not_def (by assumption) (by assumption) | exact Ne.symm (blk_not_def (by assumption) (by assumption)) | exact def_ne_blk (by assumption) (by assumption) | exact Ne.symm (def_ne_blk (by assumption) (by assumption)))
              replace hF := hF.go1 U16 ge_b6
              first | refine opv_run (add_i64 _ (by omega)) ?_ | refine opv_run (addI _ _ _ _) ?_
              first | refine opv_run (add_i64 _ (by omega)) ?_ | refine opv_run (addI _ _ _ _) ?_
              exact ⟨⟨k2 + 1, rfl, (by omega), (by first | exact g9 | rfl), h_bp, own_p, own33, own47, h_b10, (by rw [← Gs.partB hpl hx9 hx15]; exact h_b6), hF⟩, cnt_lt (by first | exact g49 | rfl) rfl (by omega)⟩
            · refine condf ?_
              refine hJ3 _ _ ?_
              exact ⟨(by rw [← hjs, show (Gs.placesL N x9).length = k2 by omega]; first | exact g9 | rfl), h_bp, own_p, own33, (by rw [← hjs, show (Gs.placesL N x9).length = k2 by omega]; exact h_b6), hF⟩
        · obtain ⟨g9, h_bp, own_p, own33, h_b6, hF⟩ := hI
          try rw [g9]
          first | refine opv_run (add_i64 _ (by omega)) ?_ | refine opv_run (addI _ _ _ _) ?_
          exact ⟨⟨k + 1, (by first | exact g35 | rfl), by omega, (by first | exact g9 | rfl), h_bp, own_p, own33, h_b6, hF⟩, cnt_lt (by first | rfl | exact g35) rfl (by omega)⟩
      · refine condf ?_
        refine hJ1 _ _ ?_
        exact ⟨(by rw [show (Gs.allM ps).length = k by omega]; first | exact g9 | rfl), h_bp, own_p, (by rw [show (Gs.allM ps).length = k by omega]; exact h_b6), hF⟩
  · obtain ⟨g9, h_bp, own_p, h_b6, hF⟩ := hI
    try rw [g9]
    refine callF_bool (c_field_Formatted h_bp own_p hpl hN hb4) (fun w17 U17 h17 => ?_) (fun w17 U17 h17 => ?_)
    · replace own_p := own_p.upd0 U17
      replace h_b6 := h_b6.upd0 U17
      replace h_bp := U17.get0 h_bp
      replace hF := hF.go0 U17
      try simp only [decide_eq_true_eq, decide_eq_false_iff_not] at h17
      refine opv_run (notT) ?_
      refine condf ?_
      refine join_cut (fun g w' => (w'.heap[bp]? = some (.cells #[.int .i64 r, .int .i64 c, .slice (some ⟨gp, 0, none⟩) N N, .int .i64 0] 102 (0, 0))) ∧ (Own w.heap.size w' 45 5 (.slice (some ⟨gp, 0, none⟩) N N) (rows Gs.cv ps)) ∧ (MapI w' .i64 b6 (Gs.vis ps ps.length)) ∧ (Upd no w w')) (fun J5 hJ5 => ?_) (fun gJ5 wJ5 hI => ?_)
      · refine callF_val (c_Plane_Len h_bp own_p hpl) (fun w18 U18 => ?_)
        replace own_p := own_p.upd0 U18
        replace h_b6 := h_b6.upd0 U18
        replace h_bp := U18.get0 h_bp
        replace hF := hF.go0 U18
        refine loop_intro (fun g w' => ∃ (k : Nat), (g 72 = .int .i64 (k : Int)) ∧ (k ≤ N) ∧ (w'.heap[bp]? = some (.cells #[.int .i64 r, .int .i64 c, .slice (some ⟨gp, 0, none⟩) N N, .int .i64 0] 102 (0, 0))) ∧ (Own w.heap.size w' 45 5 (.slice (some ⟨gp, 0, none⟩) N N) (rows Gs.cv ps)) ∧ (MapI w' .i64 b6 (Gs.vis ps ps.length)) ∧ (Upd no w w')) (fun g w' => N - (RowKit.intOf (g 72)).toNat) ?_ (fun g6 wl6 hI => ?_)
        · exact ⟨0, (by first | exact g72 | rfl), Nat.zero_le _, h_bp, own_p, (by rw [← Gs.jM_end (Gs.fmt_yes (by omega) (by assumption))]; exact h_b6), hF⟩
        · obtain ⟨k, g72, hk, h_bp, own_p, h_b6, hF⟩ := hI
          try rw [g72]
          refine opv_dec (lss _ _ _ _) (fun h19 => ?_) (fun h19 => ?_)
          · refine condt ?_
            refine callF_val (c_field_Of h_bp own_p hpl (i := (k : Int)) hN hb4 hpw) (fun w20 U20 => ?_)
            replace own_p := own_p.upd0 U20
            replace h_b6 := h_b6.upd0 U20
            replace h_bp := U20.get0 h_bp
            replace hF := hF.go0 U20
            have hob : Gs.ofB ps (k : Int) = true := Gs.ofB_fm (Gs.fmt_yes (by omega) (by assumption)) (by omega)
            rw [hob]
            refine opv_run (ext_t (by rfl)) ?_
            refine opv_run (ext_t (by rfl)) ?_
            refine alloc_intro (cs := (Gs.fv Gs.zf).toArray) (by kernel_rfl) (fun b21 w21 e21 h_b21 _ U21 => ?_)
            have ne_bp_b21 : bp ≠ b21 := by have := lt_get h_bp; omega
            have na_own_p_b21 := own_p.apart e21
            have na_h_b6_b21 := h_b6.apart e21
            have ge_b21 : w.heap.size ≤ b21 := by have := hF.size; omega
            replace own_p := own_p.upd0 U21
            replace h_b6 := h_b6.upd0 U21
            replace h_bp := U21.get0 h_bp
            replace hF := hF.go0 U21
            clear e21
            refine store_intro (n := 3) (cs' := (Gs.fv (Gs.ofM ps (k : Int))).toArray) (by kernel_rfl) (by rfl) (by first | rfl | (simp [Value.cells, Value.oneCell', Gs.cv, Gs.fv]; done)) h_b21 (by first | exact Nat.le_of_ble_eq_true rfl | (simp; done) | omega) (by rfl) (fun w22 N22 _ U22 => ?_)
            replace own_p := own_p.upd1 U22 na_own_p_b21
            replace h_b6 := h_b6.upd1 U22 na_h_b6_b21
            replace h_bp := U22.get1 h_bp ne_bp_b21
            replace h_b21 := N22
            replace hF := hF.go1 U22 ge_b21
            refine opv_run (lookup_intV (kt := 3) (e := 39) (by kernel_rfl) h_b6 (Gs.vis_get (i := (k : Int)) (by omega))) ?_
            refine opv_run (ext_t (by rfl)) ?_
            refine opv_run (ext_t (by rfl)) ?_
            refine alloc_intro (cs := (Gs.fv Gs.zf).toArray) (by kernel_rfl) (fun b24 w24 e24 h_b24 _ U24 => ?_)
            have ne_bp_b24 : bp ≠ b24 := by have := lt_get h_bp; omega
            have na_own_p_b24 := own_p.apart e24
            have na_h_b6_b24 := h_b6.apart e24
            have ne_b21_b24 : b21 ≠ b24 := by have := lt_get h_b21; omega
            have ge_b24 : w.heap.size ≤ b24 := by have := hF.size; omega
            replace own_p := own_p.upd0 U24
            replace h_b6 := h_b6.upd0 U24
            replace h_bp := U24.get0 h_bp
            replace h_b21 := U24.get0 h_b21
            replace hF := hF.go0 U24
            clear e24
            refine store_intro (n := 3) (cs' := (Gs.fv (Gs.ofM ps (k : Int))).toArray) (by kernel_rfl) (by rfl) (by first | rfl | (simp [Value.cells, Value.oneCell', Gs.cv, Gs.fv]; done)) h_b24 (by first | exact Nat.le_of_ble_eq_true rfl | (simp; done) | omega) (by rfl) (fun w25 N25 _ U25 => ?_)
            replace own_p := own_p.upd1 U25 na_own_p_b24
            replace h_b6 := h_b6.upd1 U25 na_h_b6_b24
            replace h_bp := U25.get1 h_bp ne_bp_b24
            replace h_b21 := U25.get1 h_b21 ne_b21_b24
            replace h_b24 := N25
            replace hF := hF.go1 U25 ge_b24
            refine drawn_S (S := no) (fun w26 U26 => ?_)
            replace own_p := own_p.upd0 U26
            replace h_b6 := h_b6.upd0 U26
            replace h_bp := U26.get0 h_bp
            replace h_b21 := U26.get0 h_b21
            replace h_b24 := U26.get0 h_b24
            replace hF := hF.go0 U26
            refine qop_run (fun w' hw' => (notT)) ?_
            refine qgdff ?_
            refine qmove ?_
            refine qgdff ?_
            refine qop_run (fun w' hw' => (notT)) ?_
            refine qpickf ?_
            refine qgdff ?_
            refine qop_run (fun w' hw' => by have h_b21 := hw'.get0 h_b21; exact (ldA (n := 3) (cs' := (Gs.fv (Gs.ofM ps (k : Int))).toArray) (by kernel_rfl) h_b21 (by first | exact Nat.le_of_ble_eq_true rfl | (simp; done) | omega) (by rfl))) ?_
            refine qgdff ?_
            refine qop_run (fun w' hw' => by have h_b24 := hw'.get0 h_b24; exact (ldA (n := 3) (cs' := (Gs.fv (Gs.ofM ps (k : Int))).toArray) (by kernel_rfl) h_b24 (by first | exact Nat.le_of_ble_eq_true rfl | (simp; done) | omega) (by rfl))) ?_
            refine qgdff ?_
            refine qop_F (fun w' hw' => (ne_Fld _)) (fun hne => hne rfl) ?_
            refine qpickf ?_
            refine qgdff ?_
            refine qmove ?_
            refine qgdff ?_
            refine qmove ?_
            refine qgdff ?_
            refine qop_call (fun w' hw' => by have h_bp := hw'.get0 h_bp; have own_p := own_p.upd0 hw'; exact c_field_Before h_bp own_p hpl (i := (k : Int)) hN hb4) ?_
            refine qgdff ?_
            refine qop_run (fun w' hw' => (fieldAt_eq (off := 0) (by kernel_rfl))) ?_
            refine qgdff ?_
            refine qop_run (fun w' hw' => by have h_b21 := hw'.get0 h_b21; exact (ldC (by kernel_rfl) h_b21 (by rfl))) ?_
            refine qgdff ?_
            refine qop_F (fun w' hw' => (neI _ _ _ _ _)) (fun hne => hne (Gs.of_s hob).symm) ?_
            refine qpickf ?_
            refine ext_intro (fun w28 U28 => ?_)
            replace own_p := own_p.upd0 U28
            replace h_b6 := h_b6.upd0 U28
            replace h_bp := U28.get0 h_bp
            replace h_b21 := U28.get0 h_b21
            replace h_b24 := U28.get0 h_b24
            replace hF := hF.go0 U28
            refine condf ?_
            first | refine opv_run (add_i64 _ (by omega)) ?_ | refine opv_run (addI _ _ _ _) ?_
            exact ⟨⟨k + 1, (by first | exact g72 | rfl), by omega, h_bp, own_p, h_b6, hF⟩, cnt_lt (by first | rfl | exact g72) rfl (by omega)⟩
          · refine condf ?_
            refine hJ5 _ _ ?_
            exact ⟨h_bp, own_p, h_b6, hF⟩
      · obtain ⟨h_bp, own_p, h_b6, hF⟩ := hI
        refine callF_val (c_field_Home h_bp own_p hpl hN hb4 hpw) (fun w29 U29 => ?_)
        replace own_p := own_p.upd0 U29
        replace h_b6 := h_b6.upd0 U29
        replace h_bp := U29.get0 h_bp
        replace hF := hF.go0 U29
        refine callF_val (c_Plane_Len h_bp own_p hpl) (fun w30 U30 => ?_)
        replace own_p := own_p.upd0 U30
        replace h_b6 := h_b6.upd0 U30
        replace h_bp := U30.get0 h_bp
        replace hF := hF.go0 U30
        refine opv_T (eqI _ _ _ _ _) (by rw [Gs.jM_end (Gs.fmt_yes (by omega) (by assumption)), hpl]) ?_
        refine gdtt ?_
        refine gdtt ?_
        refine opv_run (len_mapI (kt := 3) (e := 39) (by kernel_rfl) h_b6) ?_
        refine gdtt ?_
        refine gdtt ?_
        refine opv_T (eqI _ _ _ _ _) (by rw [Gs.vis_len, Gs.jM_end (Gs.fmt_yes (by omega) (by assumption))]) ?_
        refine pickt ?_
        refine gdtt ?_
        refine gdtt ?_
        refine opv_dec (eqI _ _ _ _ _) (fun h31 => ?_) (fun h31 => ?_)
        · refine gdtt ?_
          refine gdtf ?_
          refine gdtf ?_
          refine gdtf ?_
          refine gdtt ?_
          refine pickt ?_
          refine pickt ?_
          first | exact ⟨rfl, hF⟩ | exact ⟨by rw [Gs.open_home (by assumption)], hF⟩
        · refine gdtt ?_
          refine gdff ?_
          refine gdff ?_
          refine gdff ?_
          refine callF_val (c_field_Open h_bp own_p hpl (i := Gs.homeM ps) hN hb4 hpw) (fun w33 U33 => ?_)
          replace own_p := own_p.upd0 U33
          replace h_b6 := h_b6.upd0 U33
          replace h_bp := U33.get0 h_bp
          replace hF := hF.go0 U33
          refine gdtt ?_
          refine pickf ?_
          refine pickt ?_
          first | exact ⟨rfl, hF⟩ | exact ⟨by rw [Gs.open_home (by assumption)], hF⟩
    · replace own_p := own_p.upd0 U17
      replace h_b6 := h_b6.upd0 U17
      replace h_bp := U17.get0 h_bp
      replace hF := hF.go0 U17
      try simp only [decide_eq_true_eq, decide_eq_false_iff_not] at h17
      refine opv_run (notF) ?_
      refine condt ?_
      refine opv_T (eqI _ _ _ _ _) (by rw [Gs.jM_none (Gs.fmt_no (by omega) (by assumption))]; rfl) ?_
      refine gdtt ?_
      refine gdtt ?_
      refine callF_val (c_field_Home h_bp own_p hpl hN hb4 hpw) (fun w35 U35 => ?_)
      replace own_p := own_p.upd0 U35
      replace h_b6 := h_b6.upd0 U35
      replace h_bp := U35.get0 h_bp
      replace hF := hF.go0 U35
      refine gdtt ?_
      refine opv_T (eqI _ _ _ _ _) (Gs.home_nof (Gs.fmt_no (by omega) (by assumption))) ?_
      refine pickt ?_
      first | exact ⟨rfl, hF⟩ | exact ⟨by rw [Gs.open_home (by assumption)], hF⟩

end Go.Proofs.Ytojcbhkhfcddnaa
