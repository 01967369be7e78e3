/-
  Contracts of functions of the program, walked over their shallow forms. No condition but the ones that each states.
-/
import Derived.Test.YtojcbhkhfcddnaaDoorPn
namespace Go.Proofs.YtojcbhkhfcddnaaDoor
open Go Go.Sh
set_option linter.unusedVariables false
set_option maxRecDepth 100000

theorem c_Plane_FindG {r c cur : Int} {A : Option Addr} {n cp bp B0 : Nat} {cs : List Gs.Cell} {w : World} (h_bp : w.heap[bp]? = some (.cells #[.int .i64 r, .int .i64 c, .slice A n cp, .int .i64 cur] 66 (0, 0))) (own_p : Own B0 w 36 5 (.slice A n cp) (rows Gs.cv cs)) (hn : n = cs.length) {page : Int} (hcw : Gs.Cws cs) {t : ByteArray} (hts : t.size ≤ 20000) (hp : 0 < n) (hb : n ≤ 4096) (hT : Lib.Utf8Tabs 0 1 w) :
    Calls Tryd.prog 25 #[.pointer (some ⟨bp, 0, none⟩), .int .i64 page, .string t] w fun e w' => e = .returned (.int .i64 (Gs.findB page cs t)) ∧ Upd no w w' := by
  by_cases hv : Gs.valid t
  · exact c_Plane_FindG_ok h_bp own_p hn hcw hts hp hb hv hT
  · exact c_Plane_FindG_bad h_bp own_p hn hcw hts hp hb hv hT

/-- greenscreen/greenscreenlaw14.PlaneTexts -/
theorem c_PlaneTexts_0 {r c : Int} {A : Option Addr} {n cp : Nat} {N : Nat} {cs : List Gs.Cell} {w : World} (rd1 : Rd w A (rows Gs.cv cs)) (hn : n = cs.length) (hnm : n ≤ 9223372036854775807){page i j : Int} {t : ByteArray} (hT : Lib.Utf8Tabs 0 1 w) (hz : Gs.cellsN r c = 0) :
    Calls Tryd.prog 4 #[.agg #[.int .i64 r, .int .i64 c], .slice A n cp, .int .i64 page, .int .i64 i, .int .i64 j, .string t] w fun e w' => e = .returned (.bool true) ∧ Upd no w w' := by
  refine F4.calls ?_
  unfold F4
  have lt_rd1 := Rd.lt rd1
  have hF : Upd no w w := Fr.refl _ _ _
  refine box_intro (by rfl) (fun b1 w1 e1 h_b1 _ U1 => ?_)
  have na_rd1_b1 := rd1.apart e1
  have ge_b1 : w.heap.size ≤ b1 := by have := hF.size; omega
  replace rd1 := rd1.upd0 U1
  replace hF := hF.go0 U1
  clear e1
  refine callF_T (c_law14_alive) (rfl) (fun w2 U2 => ?_)
  replace rd1 := rd1.upd0 U2
  replace h_b1 := U2.get0 h_b1
  replace hF := hF.go0 U2
  refine opv_run (notT) ?_
  refine condf ?_
  refine opv_run (ldA (n := 2) (by kernel_rfl) h_b1 (by first | exact Nat.le_of_ble_eq_true rfl | (simp; done) | omega) (by rfl)) ?_
  refine callF_ex (c_made_0 rd1 hn hnm hz) (fun v3 w3 D3 => ?_)
  obtain ⟨xa, xb, xc, xd, xe, xf, rfl, U3⟩ := D3
  replace rd1 := rd1.upd0 U3
  replace h_b1 := U3.get0 h_b1
  replace hF := hF.go0 U3
  refine opv_run (ext_t (by rfl)) ?_
  refine opv_run (ext_t (by rfl)) ?_
  refine opv_run (ext_t (by rfl)) ?_
  refine alloc_intro (cs := #[.int .i64 0, .int .i64 0, .slice none 0 0, .int .i64 0]) (by kernel_rfl) (fun b4 w4 e4 h_b4 _ U4 => ?_)
  have na_rd1_b4 := rd1.apart e4
  have ne_b1_b4 : b1 ≠ b4 := by have := lt_get h_b1; omega
  have ge_b4 : w.heap.size ≤ b4 := by have := hF.size; omega
  replace rd1 := rd1.upd0 U4
  replace h_b1 := U4.get0 h_b1
  replace hF := hF.go0 U4
  clear e4
  refine store_intro (n := 4) (cs' := #[.int .i64 xa, .int .i64 xb, .slice xd xe xf, .int .i64 xc]) (by kernel_rfl) (by rfl) (by first | rfl | (simp [Value.cells, Value.oneCell', Gs.cv, Gs.ov]; done)) h_b4 (by first | exact Nat.le_of_ble_eq_true rfl | (simp; done) | omega) (by rfl) (fun w5 N5 _ U5 => ?_)
  replace rd1 := rd1.upd1 U5 na_rd1_b4
  replace h_b1 := U5.get1 h_b1 ne_b1_b4
  replace h_b4 := N5
  replace hF := hF.go1 U5 ge_b4
  refine opv_run (notF) ?_
  refine gdtf ?_
  refine gdtf ?_
  refine gdtf ?_
  refine pickt ?_
  refine condt ?_
  exact ⟨rfl, hF⟩

/-- greenscreen/greenscreenlaw14.PlaneTexts -/
theorem c_PlaneTexts_big {r c : Int} {A : Option Addr} {n cp : Nat} {N : Nat} {cs : List Gs.Cell} {w : World} (rd1 : Rd w A (rows Gs.cv cs)) (hn : n = cs.length) (hnm : n ≤ 9223372036854775807){page i j : Int} {t : ByteArray} (hT : Lib.Utf8Tabs 0 1 w) (hN : Gs.cellsN r c = N) (hz : 200 < N) :
    Calls Tryd.prog 4 #[.agg #[.int .i64 r, .int .i64 c], .slice A n cp, .int .i64 page, .int .i64 i, .int .i64 j, .string t] w fun e w' => e = .returned (.bool true) ∧ Upd no w w' := by
  refine F4.calls ?_
  unfold F4
  have lt_rd1 := Rd.lt rd1
  have hF : Upd no w w := Fr.refl _ _ _
  refine box_intro (by rfl) (fun b1 w1 e1 h_b1 _ U1 => ?_)
  have na_rd1_b1 := rd1.apart e1
  have ge_b1 : w.heap.size ≤ b1 := by have := hF.size; omega
  replace rd1 := rd1.upd0 U1
  replace hF := hF.go0 U1
  clear e1
  refine callF_T (c_law14_alive) (rfl) (fun w2 U2 => ?_)
  replace rd1 := rd1.upd0 U2
  replace h_b1 := U2.get0 h_b1
  replace hF := hF.go0 U2
  refine opv_run (notT) ?_
  refine condf ?_
  refine opv_run (ldA (n := 2) (by kernel_rfl) h_b1 (by first | exact Nat.le_of_ble_eq_true rfl | (simp; done) | omega) (by rfl)) ?_
  refine callF_ex (c_made_big rd1 hn hnm hN hz) (fun v3 w3 D3 => ?_)
  obtain ⟨xa, xb, xc, xd, xe, xf, rfl, U3⟩ := D3
  replace rd1 := rd1.upd0 U3
  replace h_b1 := U3.get0 h_b1
  replace hF := hF.go0 U3
  refine opv_run (ext_t (by rfl)) ?_
  refine opv_run (ext_t (by rfl)) ?_
  refine opv_run (ext_t (by rfl)) ?_
  refine alloc_intro (cs := #[.int .i64 0, .int .i64 0, .slice none 0 0, .int .i64 0]) (by kernel_rfl) (fun b4 w4 e4 h_b4 _ U4 => ?_)
  have na_rd1_b4 := rd1.apart e4
  have ne_b1_b4 : b1 ≠ b4 := by have := lt_get h_b1; omega
  have ge_b4 : w.heap.size ≤ b4 := by have := hF.size; omega
  replace rd1 := rd1.upd0 U4
  replace h_b1 := U4.get0 h_b1
  replace hF := hF.go0 U4
  clear e4
  refine store_intro (n := 4) (cs' := #[.int .i64 xa, .int .i64 xb, .slice xd xe xf, .int .i64 xc]) (by kernel_rfl) (by rfl) (by first | rfl | (simp [Value.cells, Value.oneCell', Gs.cv, Gs.ov]; done)) h_b4 (by first | exact Nat.le_of_ble_eq_true rfl | (simp; done) | omega) (by rfl) (fun w5 N5 _ U5 => ?_)
  replace rd1 := rd1.upd1 U5 na_rd1_b4
  replace h_b1 := U5.get1 h_b1 ne_b1_b4
  replace h_b4 := N5
  replace hF := hF.go1 U5 ge_b4
  refine opv_run (notF) ?_
  refine gdtf ?_
  refine gdtf ?_
  refine gdtf ?_
  refine pickt ?_
  refine condt ?_
  exact ⟨rfl, hF⟩

/-- greenscreen/greenscreenlaw14.PlaneTexts -/
theorem c_PlaneTexts_ok {r c : Int} {A : Option Addr} {n cp : Nat} {N : Nat} {cs : List Gs.Cell} {w : World} (rd1 : Rd w A (rows Gs.cv cs)) (hn : n = cs.length) (hnm : n ≤ 9223372036854775807){page i j : Int} {t : ByteArray} (hT : Lib.Utf8Tabs 0 1 w) (hcw : Gs.Cws cs) (hN : Gs.cellsN r c = N) (hz : N ≠ 0) (hz2 : N ≤ 200) :
    Calls Tryd.prog 4 #[.agg #[.int .i64 r, .int .i64 c], .slice A n cp, .int .i64 page, .int .i64 i, .int .i64 j, .string t] w fun e w' => e = .returned (.bool true) ∧ Upd no w w' := by
  refine F4.calls ?_
  unfold F4
  have hcp := Gs.cells_pos (r := r) (c := c) (by omega)
  have lt_rd1 := Rd.lt rd1
  have hF : Upd no w w := Fr.refl _ _ _
  refine box_intro (by rfl) (fun b1 w1 e1 h_b1 _ U1 => ?_)
  have na_rd1_b1 := rd1.apart e1
  have ge_b1 : w.heap.size ≤ b1 := by have := hF.size; omega
  replace rd1 := rd1.upd0 U1
  replace hF := hF.go0 U1
  clear e1
  refine callF_T (c_law14_alive) (rfl) (fun w2 U2 => ?_)
  replace rd1 := rd1.upd0 U2
  replace h_b1 := U2.get0 h_b1
  replace hF := hF.go0 U2
  refine opv_run (notT) ?_
  refine condf ?_
  refine opv_run (ldA (n := 2) (by kernel_rfl) h_b1 (by first | exact Nat.le_of_ble_eq_true rfl | (simp; done) | omega) (by rfl)) ?_
  refine callF_ex (c_made_ok rd1 hn hnm hN hz hz2) (fun v3 w3 D3 => ?_)
  obtain ⟨bp, gp, gx, rfl, gbp, h_bp, own_p, own_x, npx, U3⟩ := D3
  have na_rd1_bp := (Rd.lt rd1).ne (b := bp) (by omega)
  have ne_b1_bp : b1 ≠ bp := by have := lt_get h_b1; omega
  have ge_bp : w.heap.size ≤ bp := by have := hF.size; omega
  have nx3_rd1_own_p : _ ∨ ∀ k, blkOf _ k → ¬ ownS _ k := (Rd.lt rd1).imp_right fun h k hk hs => by have := h k hk; have := (Own.ge own_p hs).1; omega
  have nx3_h_b1_own_p : ¬ ownS _ b1 := fun h => by have := (Own.ge own_p h).1; have := lt_get h_b1; omega
  replace own_p := own_p.mono (B' := w.heap.size) hF.size
  have nx3_rd1_own_x : _ ∨ ∀ k, blkOf _ k → ¬ ownS _ k := (Rd.lt rd1).imp_right fun h k hk hs => by have := h k hk; have := (Own.ge own_x hs).1; omega
  have nx3_h_b1_own_x : ¬ ownS _ b1 := fun h => by have := (Own.ge own_x h).1; have := lt_get h_b1; omega
  replace own_x := own_x.mono (B' := w.heap.size) hF.size
  replace rd1 := rd1.upd0 U3
  replace h_b1 := U3.get0 h_b1
  replace hF := hF.go0 U3
  obtain ⟨ps, hps⟩ : ∃ ps, ps = Gs.madeK N cs cs.length := ⟨_, rfl⟩
  rw [← hps] at own_p own_x
  have hpl : N = ps.length := by rw [hps, Gs.made_len]
  have hpw : Gs.Cws ps := by rw [hps]; exact Gs.made_w hcw _
  clear hps
  refine opv_run (ext_t (by rfl)) ?_
  refine opv_run (ext_t (by rfl)) ?_
  refine opv_run (ext_t (by rfl)) ?_
  refine alloc_intro (cs := #[.int .i64 0, .int .i64 0, .slice none 0 0, .int .i64 0]) (by kernel_rfl) (fun b4 w4 e4 h_b4 _ U4 => ?_)
  have na_rd1_b4 := rd1.apart e4
  have ne_b1_b4 : b1 ≠ b4 := by have := lt_get h_b1; omega
  have ne_bp_b4 : bp ≠ b4 := by have := lt_get h_bp; omega
  have na_own_p_b4 := own_p.apart e4
  have na_own_x_b4 := own_x.apart e4
  have ge_b4 : w.heap.size ≤ b4 := by have := hF.size; omega
  replace rd1 := rd1.upd0 U4
  replace own_p := own_p.upd0 U4
  replace own_x := own_x.upd0 U4
  replace h_b1 := U4.get0 h_b1
  replace h_bp := U4.get0 h_bp
  replace hF := hF.go0 U4
  clear e4
  refine store_intro (n := 4) (cs' := #[.int .i64 r, .int .i64 c, .slice (some ⟨gx, 0, none⟩) N N, .int .i64 0]) (by kernel_rfl) (by rfl) (by first | rfl | (simp [Value.cells, Value.oneCell', Gs.cv, Gs.ov]; done)) h_b4 (by first | exact Nat.le_of_ble_eq_true rfl | (simp; done) | omega) (by rfl) (fun w5 N5 _ U5 => ?_)
  replace rd1 := rd1.upd1 U5 na_rd1_b4
  replace own_p := own_p.upd1 U5 na_own_p_b4
  replace own_x := own_x.upd1 U5 na_own_x_b4
  replace h_b1 := U5.get1 h_b1 ne_b1_b4
  replace h_bp := U5.get1 h_bp ne_bp_b4
  replace h_b4 := N5
  replace hF := hF.go1 U5 ge_b4
  refine opv_run (notT) ?_
  refine gdff ?_
  refine gdff ?_
  refine opv_run (len_str (by kernel_rfl) _) ?_
  refine gdff ?_
  refine opv_dec (gtr _ _ _ _) (fun h6 => ?_) (fun h6 => ?_)
  · refine pickf ?_
    refine condt ?_
    exact ⟨rfl, hF⟩
  · refine pickf ?_
    refine condf ?_
    refine callF_ex (c_Plane_Rows h_bp own_p hpl (page := page) hpw (by omega) (by omega) (by omega) (by omega)) (fun v8 w8 D8 => ?_)
    obtain ⟨own37, U8⟩ := D8
    have nx8_rd1_own37 : _ ∨ ∀ k, blkOf _ k → ¬ ownS _ k := (Rd.lt rd1).imp_right fun h k hk hs => by have := h k hk; have := (Own.ge own37 hs).1; omega
    have nx8_h_b1_own37 : ¬ ownS _ b1 := fun h => by have := (Own.ge own37 h).1; have := lt_get h_b1; omega
    have nx8_h_bp_own37 : ¬ ownS _ bp := fun h => by have := (Own.ge own37 h).1; have := lt_get h_bp; omega
    have nx8_own_p_own37 : ∀ k, ownS _ k → ¬ ownS _ k := fun k hk hs => by have := (Own.ge own_p hk).2; have := (Own.ge own37 hs).1; omega
    have nx8_own_x_own37 : ∀ k, ownS _ k → ¬ ownS _ k := fun k hk hs => by have := (Own.ge own_x hk).2; have := (Own.ge own37 hs).1; omega
    have nx8_h_b4_own37 : ¬ ownS _ b4 := fun h => by have := (Own.ge own37 h).1; have := lt_get h_b4; omega
    replace own37 := own37.mono (B' := w.heap.size) hF.size
    replace rd1 := rd1.upd0 U8
    replace own_p := own_p.upd0 U8
    replace own_x := own_x.upd0 U8
    replace h_b1 := U8.get0 h_b1
    replace h_bp := U8.get0 h_bp
    replace h_b4 := U8.get0 h_b4
    replace hF := hF.go0 U8
    replace own37 := own37.mono (B' := w.heap.size) (by have := hF.size; omega)
    obtain ⟨A37, n37, c37, rfl, hl37, rd37⟩ := own37.rd
    rw [Gs.strs_len, Gs.rowsL_len] at hl37
    refine opv_run (len_sl (by kernel_rfl) _ _ _) ?_
    refine opv_run (fieldAt_eq (off := 0) (by kernel_rfl)) ?_
    refine opv_run (ldC (by kernel_rfl) h_b1 (by rfl)) ?_
    refine opv_F (neI _ _ _ _ _) (fun hne => hne (by omega)) ?_
    refine condf ?_
    refine join_cut (fun g w' => (w'.heap[bp]? = some (.cells #[.int .i64 r, .int .i64 c, .slice (some ⟨gp, 0, none⟩) N N, .int .i64 0] 66 (0, 0))) ∧ (Own w.heap.size w' 36 5 (.slice (some ⟨gp, 0, none⟩) N N) (rows Gs.cv ps)) ∧ (Own w.heap.size w' 36 5 (.slice (some ⟨gx, 0, none⟩) N N) (rows Gs.cv ps)) ∧ (w'.heap[b4]? = some (.cells #[.int .i64 r, .int .i64 c, .slice (some ⟨gx, 0, none⟩) N N, .int .i64 0] 32 (0, 0))) ∧ (Upd no w w')) (fun J1 hJ1 => ?_) (fun gJ1 wJ1 hI => ?_)
    · refine opv_run (len_sl (by kernel_rfl) _ _ _) ?_
      refine loop_intro (fun g w' => ∃ (k : Nat), (g 45 = .int .i64 (k : Int)) ∧ (k ≤ r.toNat) ∧ (w'.heap[bp]? = some (.cells #[.int .i64 r, .int .i64 c, .slice (some ⟨gp, 0, none⟩) N N, .int .i64 0] 66 (0, 0))) ∧ (Own w.heap.size w' 36 5 (.slice (some ⟨gp, 0, none⟩) N N) (rows Gs.cv ps)) ∧ (Own w.heap.size w' 36 5 (.slice (some ⟨gx, 0, none⟩) N N) (rows Gs.cv ps)) ∧ (w'.heap[b4]? = some (.cells #[.int .i64 r, .int .i64 c, .slice (some ⟨gx, 0, none⟩) N N, .int .i64 0] 32 (0, 0))) ∧ (Own w.heap.size w' 9 1 (.slice A37 n37 c37) (Gs.strs (Gs.rowsL page c ps r.toNat))) ∧ (w'.heap[b1]? = some (.cells #[.int .i64 r, .int .i64 c] 23 (0, 0))) ∧ (Upd no w w')) (fun g w' => r.toNat - (RowKit.intOf (g 45)).toNat) ?_ (fun g2 wl2 hI => ?_)
      · exact ⟨0, (by first | exact g45 | rfl), Nat.zero_le _, h_bp, own_p, own_x, h_b4, own37, h_b1, hF⟩
      · obtain ⟨k, g45, hk, h_bp, own_p, own_x, h_b4, own37, h_b1, hF⟩ := hI
        try rw [g45]
        refine opv_dec (lss _ _ _ _) (fun h9 => ?_) (fun h9 => ?_)
        · refine condt ?_
          refine idx_strs (by kernel_rfl) (by kernel_rfl) own37.rdS (by first | rfl | assumption | omega | (simp only [Gs.rowsL_len]; omega)) (by omega) (by omega) (fun x10 hx10 => ?_)
          try simp only [Int.toNat_natCast] at hx10
          have hkc := Gs.mul_row (k := k) (r := r) (c := c) (by omega) (by omega) (by omega) (by omega)
          have hxr := Gs.rowsL_at hx10
          refine opv_run (ldA (n := 4) (cs' := #[.int .i64 r, .int .i64 c, .slice (some ⟨gx, 0, none⟩) N N, .int .i64 0]) (by kernel_rfl) h_b4 (by first | exact Nat.le_of_ble_eq_true rfl | (simp; done) | omega) (by rfl)) ?_
          refine opv_run (fieldAt_eq (off := 1) (by kernel_rfl)) ?_
          refine opv_run (ldC (by kernel_rfl) h_b1 (by rfl)) ?_
          refine opv_run (mul_i64 _ (by omega)) ?_
          refine opv_run (fieldAt_eq (off := 1) (by kernel_rfl)) ?_
          refine opv_run (ldC (by kernel_rfl) h_b1 (by rfl)) ?_
          refine callF_val (c_greenscreenref14_Text own_x.rdS hpl (page := page) (f := (k : Int) * c) (m := c) hpw (by omega)) (fun w12 U12 => ?_)
          replace own_p := own_p.upd0 U12
          replace own_x := own_x.upd0 U12
          replace own37 := own37.upd0 U12
          replace h_bp := U12.get0 h_bp
          replace h_b4 := U12.get0 h_b4
          replace h_b1 := U12.get0 h_b1
          replace hF := hF.go0 U12
          refine opv_F (neS _ _ _ _) (fun hne => hne hxr) ?_
          refine condf ?_
          first | refine opv_run (add_i64 _ (by omega)) ?_ | refine opv_run (addI _ _ _ _) ?_
          exact ⟨⟨k + 1, (by first | exact g45 | rfl), by omega, h_bp, own_p, own_x, h_b4, own37, h_b1, hF⟩, cnt_lt (by first | rfl | exact g45) rfl (by omega)⟩
        · refine condf ?_
          refine hJ1 _ _ ?_
          exact ⟨h_bp, own_p, own_x, h_b4, hF⟩
    · obtain ⟨h_bp, own_p, own_x, h_b4, hF⟩ := hI
      refine drawn_S (S := no) (fun w13 U13 => ?_)
      replace own_p := own_p.upd0 U13
      replace own_x := own_x.upd0 U13
      replace h_bp := U13.get0 h_bp
      replace h_b4 := U13.get0 h_b4
      replace hF := hF.go0 U13
      refine qop_call (fun w' hw' => by have h_bp := hw'.get0 h_bp; have own_p := own_p.upd0 hw'; exact c_Plane_Text h_bp own_p hpl (page := page) (f := i) (m := j) hpw (by omega) (by omega)) ?_
      refine qop_run (fun w' hw' => by have h_b4 := hw'.get0 h_b4; exact (ldA (n := 4) (cs' := #[.int .i64 r, .int .i64 c, .slice (some ⟨gx, 0, none⟩) N N, .int .i64 0]) (by kernel_rfl) h_b4 (by first | exact Nat.le_of_ble_eq_true rfl | (simp; done) | omega) (by rfl))) ?_
      refine qop_call (fun w' hw' => by have own_x := own_x.upd0 hw'; exact c_greenscreenref14_Text own_x.rdS hpl (page := page) (f := i) (m := j) hpw (by omega)) ?_
      refine qop_T (fun w' hw' => (eqS _ _ _ _)) (rfl) ?_
      refine qgdtt ?_
      refine qmove ?_
      refine qgdtt ?_
      refine qmove ?_
      refine qgdtt ?_
      refine qmove ?_
      refine qgdtt ?_
      refine qop_call (fun w' hw' => by have h_bp := hw'.get0 h_bp; have own_p := own_p.upd0 hw'; exact c_Plane_FindG h_bp own_p hpl (page := page) (t := t) hpw (by omega) (by omega) (by omega) (Gs.tabs_up hT (hF.go0 hw'))) ?_
      refine qgdtt ?_
      refine qop_run (fun w' hw' => by have h_b4 := hw'.get0 h_b4; exact (ldA (n := 4) (cs' := #[.int .i64 r, .int .i64 c, .slice (some ⟨gx, 0, none⟩) N N, .int .i64 0]) (by kernel_rfl) h_b4 (by first | exact Nat.le_of_ble_eq_true rfl | (simp; done) | omega) (by rfl))) ?_
      refine qgdtt ?_
      refine qmove ?_
      refine qgdtt ?_
      refine qmove ?_
      refine qgdtt ?_
      refine qop_call (fun w' hw' => by have own_x := own_x.upd0 hw'; exact c_ref14_FindG own_x.rdS hpl (page := page) (t := t) hpw (by omega) (by omega)) ?_
      refine qgdtt ?_
      refine qop_T (fun w' hw' => (eqI _ _ _ _ _)) (rfl) ?_
      refine qpickt ?_
      refine ext_intro (fun w18 U18 => ?_)
      replace own_p := own_p.upd0 U18
      replace own_x := own_x.upd0 U18
      replace h_bp := U18.get0 h_bp
      replace h_b4 := U18.get0 h_b4
      replace hF := hF.go0 U18
      exact ⟨rfl, hF⟩

end Go.Proofs.YtojcbhkhfcddnaaDoor
