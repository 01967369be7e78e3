/-
  Contracts of functions of the program, walked over their shallow forms. No condition but the ones that each states.
-/
import Derived.Test.YtojcbhkhfcddnaaFi
import Derived.Test.YtojcbhkhfcddnaaFieldLaws4
namespace Go.Proofs.Ytojcbhkhfcddnaa
open Go Go.Sh
set_option linter.unusedVariables false
set_option maxRecDepth 100000


/-- greenscreen/greenscreenlaw15.same -/
theorem c_law15_same {r c cur : Int} {A : Option Addr} {n cp bp B0 : Nat} {cs : List Gs.Cell} {w : World} (h_bp : w.heap[bp]? = some (.cells #[.int .i64 r, .int .i64 c, .slice A n cp, .int .i64 cur] 102 (0, 0))) (own_p : Own B0 w 45 5 (.slice A n cp) (rows Gs.cv cs)) (hn : n = cs.length) {A2 : Option Addr} {cp2 : Nat} (rdx : Rd w A2 (rows Gs.cv cs)) (hb : n ≤ 4096) :
    Calls Try.prog 34 #[.pointer (some ⟨bp, 0, none⟩), .agg #[.int .i64 r, .int .i64 c, .slice A2 n cp2, .int .i64 cur]] w fun e w' => e = .returned (.bool true) ∧ Upd no w w' := by
  refine F34.calls ?_
  unfold F34
  subst hn
  have lt_h_bp := lt_get h_bp
  have lt_own_p := Own.lt own_p
  have lt_rdx := Rd.lt rdx
  have hF : Upd no w w := Fr.refl _ _ _
  refine box_intro (cs := #[.int .i64 r, .int .i64 c, .slice A2 cs.length cp2, .int .i64 cur]) (by rfl) (fun b1 w1 e1 h_b1 _ U1 => ?_)
  have ne_bp_b1 : bp ≠ b1 := by have := lt_get h_bp; omega
  have na_own_p_b1 := own_p.apart e1
  have na_rdx_b1 := rdx.apart e1
  have ge_b1 : w.heap.size ≤ b1 := by have := hF.size; omega
  replace own_p := own_p.upd0 U1
  replace rdx := rdx.upd0 U1
  replace h_bp := U1.get0 h_bp
  replace hF := hF.go0 U1
  clear e1
  refine join_cut (fun g w' => (w'.heap[bp]? = some (.cells #[.int .i64 r, .int .i64 c, .slice A cs.length cp, .int .i64 cur] 102 (0, 0))) ∧ (Own B0 w' 45 5 (.slice A cs.length cp) (rows Gs.cv cs)) ∧ (w'.heap[b1]? = some (.cells #[.int .i64 r, .int .i64 c, .slice A2 cs.length cp2, .int .i64 cur] 28 (0, 0))) ∧ (Upd no w w')) (fun J1 hJ1 => ?_) (fun gJ1 wJ1 hI => ?_)
  · refine opv_run (fieldAt_eq (off := 2) (by kernel_rfl)) ?_
    refine opv_run (ldC (by kernel_rfl) h_b1 (by rfl)) ?_
    refine opv_run (len_sl (by kernel_rfl) _ _ _) ?_
    refine loop_intro (fun g w' => ∃ (k : Nat), (g 9 = .int .i64 (k : Int)) ∧ (k ≤ cs.length) ∧ (w'.heap[bp]? = some (.cells #[.int .i64 r, .int .i64 c, .slice A cs.length cp, .int .i64 cur] 102 (0, 0))) ∧ (Own B0 w' 45 5 (.slice A cs.length cp) (rows Gs.cv cs)) ∧ (w'.heap[b1]? = some (.cells #[.int .i64 r, .int .i64 c, .slice A2 cs.length cp2, .int .i64 cur] 28 (0, 0))) ∧ (Rd w' A2 (rows Gs.cv cs)) ∧ (Upd no w w')) (fun g w' => cs.length - (RowKit.intOf (g 9)).toNat) ?_ (fun g2 wl2 hI => ?_)
    · exact ⟨0, (by first | exact g9 | rfl), Nat.zero_le _, h_bp, own_p, h_b1, rdx, hF⟩
    · obtain ⟨k, g9, hk, h_bp, own_p, h_b1, rdx, hF⟩ := hI
      try rw [g9]
      refine opv_dec (lss _ _ _ _) (fun h2 => ?_) (fun h2 => ?_)
      · refine condt ?_
        refine drawn_S (S := no) (fun w3 U3 => ?_)
        replace own_p := own_p.upd0 U3
        replace rdx := rdx.upd0 U3
        replace h_bp := U3.get0 h_bp
        replace h_b1 := U3.get0 h_b1
        replace hF := hF.go0 U3
        refine qop_call (fun w' hw' => by have h_bp := hw'.get0 h_bp; have own_p := own_p.upd0 hw'; exact c_Plane_At h_bp own_p rfl (i := (k : Int))) ?_
        refine qop_run (fun w' hw' => (fieldAt_eq (off := 2) (by kernel_rfl))) ?_
        refine qop_run (fun w' hw' => by have h_b1 := hw'.get0 h_b1; exact (ldC (by kernel_rfl) h_b1 (by rfl))) ?_
        refine qidx Gs.encC (by kernel_rfl) (by kernel_rfl) (fun w' hw' => rdx.upd0 hw') (Fr.refl _ _ _) (by first | rfl | assumption | omega) (by omega) (by omega) (fun x5 hx5 => ?_)
        try simp only [Int.toNat_natCast] at hx5
        refine qop_F (fun w' hw' => (ne_Cell _)) (fun hne => hne (Gs.getC_in (i := (k : Int)) (by omega) (by simpa using hx5))) ?_
        refine ext_intro (fun w6 U6 => ?_)
        replace own_p := own_p.upd0 U6
        replace rdx := rdx.upd0 U6
        replace h_bp := U6.get0 h_bp
        replace h_b1 := U6.get0 h_b1
        replace hF := hF.go0 U6
        refine condf ?_
        first | refine opv_run (add_i64 _ (by omega)) ?_ | refine opv_run (addI _ _ _ _) ?_
        exact ⟨⟨k + 1, (by first | exact g9 | rfl), by omega, h_bp, own_p, h_b1, rdx, hF⟩, cnt_lt (by first | rfl | exact g9) rfl (by omega)⟩
      · refine condf ?_
        refine hJ1 _ _ ?_
        exact ⟨h_bp, own_p, h_b1, hF⟩
  · obtain ⟨h_bp, own_p, h_b1, hF⟩ := hI
    refine drawn_S (S := no) (fun w7 U7 => ?_)
    replace own_p := own_p.upd0 U7
    replace h_bp := U7.get0 h_bp
    replace h_b1 := U7.get0 h_b1
    replace hF := hF.go0 U7
    refine qop_call (fun w' hw' => by have h_bp := hw'.get0 h_bp; have own_p := own_p.upd0 hw'; exact c_Plane_Len h_bp own_p rfl) ?_
    refine qop_run (fun w' hw' => (fieldAt_eq (off := 2) (by kernel_rfl))) ?_
    refine qop_run (fun w' hw' => by have h_b1 := hw'.get0 h_b1; exact (ldC (by kernel_rfl) h_b1 (by rfl))) ?_
    refine qop_run (fun w' hw' => (len_sl (by kernel_rfl) _ _ _)) ?_
    refine qop_T (fun w' hw' => (eqI _ _ _ _ _)) (rfl) ?_
    refine qgdtt ?_
    refine qmove ?_
    refine qgdtt ?_
    refine qop_call (fun w' hw' => by have h_bp := hw'.get0 h_bp; have own_p := own_p.upd0 hw'; exact c_Plane_Cursor h_bp own_p rfl) ?_
    refine qgdtt ?_
    refine qop_run (fun w' hw' => (fieldAt_eq (off := 3) (by kernel_rfl))) ?_
    refine qgdtt ?_
    refine qop_run (fun w' hw' => by have h_b1 := hw'.get0 h_b1; exact (ldC (by kernel_rfl) h_b1 (by rfl))) ?_
    refine qgdtt ?_
    refine qop_T (fun w' hw' => (eqI _ _ _ _ _)) (rfl) ?_
    refine qpickt ?_
    refine ext_intro (fun w10 U10 => ?_)
    replace own_p := own_p.upd0 U10
    replace h_bp := U10.get0 h_bp
    replace h_b1 := U10.get0 h_b1
    replace hF := hF.go0 U10
    exact ⟨rfl, hF⟩

/-- greenscreen/greenscreenlaw15.FieldMarks -/
theorem c_FieldMarks_0 {r c : Int} {A : Option Addr} {n cp : Nat} {N : Nat} {cs : List Gs.Cell} {w : World} (rd1 : Rd w A (rows Gs.cv cs)) (hn : n = cs.length) (hnm : n ≤ 9223372036854775807){A2 : Option Addr} {n2 cp2 : Nat} {ms : List Int} (rd2 : Rd w A2 (vals .i64 ms)) (hn2 : n2 = ms.length) (hz : Gs.cellsN r c = 0) :
    Calls Try.prog 7 #[.agg #[.int .i64 r, .int .i64 c], .slice A n cp, .slice A2 n2 cp2] w fun e w' => e = .returned (.bool true) ∧ Upd no w w' := by
  refine F7.calls ?_
  unfold F7
  have lt_rd1 := Rd.lt rd1
  have lt_rd2 := Rd.lt rd2
  have hF : Upd no w w := Fr.refl _ _ _
  refine box_intro (by rfl) (fun b1 w1 e1 h_b1 _ U1 => ?_)
  have na_rd1_b1 := rd1.apart e1
  have na_rd2_b1 := rd2.apart e1
  have ge_b1 : w.heap.size ≤ b1 := by have := hF.size; omega
  replace rd1 := rd1.upd0 U1
  replace rd2 := rd2.upd0 U1
  replace hF := hF.go0 U1
  clear e1
  refine callF_T (c_law15_alive) (rfl) (fun w2 U2 => ?_)
  replace rd1 := rd1.upd0 U2
  replace rd2 := rd2.upd0 U2
  replace h_b1 := U2.get0 h_b1
  replace hF := hF.go0 U2
  refine opv_run (notT) ?_
  refine condf ?_
  refine opv_run (ldA (n := 2) (by kernel_rfl) h_b1 (by first | exact Nat.le_of_ble_eq_true rfl | (simp; done) | omega) (by rfl)) ?_
  refine callF_ex (c_made_0 rd1 hn hnm hz) (fun v3 w3 D3 => ?_)
  obtain ⟨xa, xb, xc, xd, xe, xf, rfl, U3⟩ := D3
  replace rd1 := rd1.upd0 U3
  replace rd2 := rd2.upd0 U3
  replace h_b1 := U3.get0 h_b1
  replace hF := hF.go0 U3
  refine opv_run (ext_t (by rfl)) ?_
  refine opv_run (ext_t (by rfl)) ?_
  refine opv_run (ext_t (by rfl)) ?_
  refine alloc_intro (cs := #[.int .i64 0, .int .i64 0, .slice none 0 0, .int .i64 0]) (by kernel_rfl) (fun b4 w4 e4 h_b4 _ U4 => ?_)
  have na_rd1_b4 := rd1.apart e4
  have na_rd2_b4 := rd2.apart e4
  have ne_b1_b4 : b1 ≠ b4 := by have := lt_get h_b1; omega
  have ge_b4 : w.heap.size ≤ b4 := by have := hF.size; omega
  replace rd1 := rd1.upd0 U4
  replace rd2 := rd2.upd0 U4
  replace h_b1 := U4.get0 h_b1
  replace hF := hF.go0 U4
  clear e4
  refine store_intro (n := 4) (cs' := #[.int .i64 xa, .int .i64 xb, .slice xd xe xf, .int .i64 xc]) (by kernel_rfl) (by rfl) (by first | rfl | (simp [Value.cells, Value.oneCell', Gs.cv, Gs.fv]; done)) h_b4 (by first | exact Nat.le_of_ble_eq_true rfl | (simp; done) | omega) (by rfl) (fun w5 N5 _ U5 => ?_)
  replace rd1 := rd1.upd1 U5 na_rd1_b4
  replace rd2 := rd2.upd1 U5 na_rd2_b4
  replace h_b1 := U5.get1 h_b1 ne_b1_b4
  replace h_b4 := N5
  replace hF := hF.go1 U5 ge_b4
  refine opv_run (notF) ?_
  refine gdtf ?_
  refine gdtf ?_
  refine gdtf ?_
  refine pickt ?_
  refine condt ?_
  exact ⟨rfl, hF⟩

/-- greenscreen/greenscreenlaw15.FieldMarks -/
theorem c_FieldMarks_big {r c : Int} {A : Option Addr} {n cp : Nat} {N : Nat} {cs : List Gs.Cell} {w : World} (rd1 : Rd w A (rows Gs.cv cs)) (hn : n = cs.length) (hnm : n ≤ 9223372036854775807){A2 : Option Addr} {n2 cp2 : Nat} {ms : List Int} (rd2 : Rd w A2 (vals .i64 ms)) (hn2 : n2 = ms.length) (hN : Gs.cellsN r c = N) (hz : 120 < N) :
    Calls Try.prog 7 #[.agg #[.int .i64 r, .int .i64 c], .slice A n cp, .slice A2 n2 cp2] w fun e w' => e = .returned (.bool true) ∧ Upd no w w' := by
  refine F7.calls ?_
  unfold F7
  have lt_rd1 := Rd.lt rd1
  have lt_rd2 := Rd.lt rd2
  have hF : Upd no w w := Fr.refl _ _ _
  refine box_intro (by rfl) (fun b1 w1 e1 h_b1 _ U1 => ?_)
  have na_rd1_b1 := rd1.apart e1
  have na_rd2_b1 := rd2.apart e1
  have ge_b1 : w.heap.size ≤ b1 := by have := hF.size; omega
  replace rd1 := rd1.upd0 U1
  replace rd2 := rd2.upd0 U1
  replace hF := hF.go0 U1
  clear e1
  refine callF_T (c_law15_alive) (rfl) (fun w2 U2 => ?_)
  replace rd1 := rd1.upd0 U2
  replace rd2 := rd2.upd0 U2
  replace h_b1 := U2.get0 h_b1
  replace hF := hF.go0 U2
  refine opv_run (notT) ?_
  refine condf ?_
  refine opv_run (ldA (n := 2) (by kernel_rfl) h_b1 (by first | exact Nat.le_of_ble_eq_true rfl | (simp; done) | omega) (by rfl)) ?_
  refine callF_ex (c_made_big rd1 hn hnm hN hz) (fun v3 w3 D3 => ?_)
  obtain ⟨xa, xb, xc, xd, xe, xf, rfl, U3⟩ := D3
  replace rd1 := rd1.upd0 U3
  replace rd2 := rd2.upd0 U3
  replace h_b1 := U3.get0 h_b1
  replace hF := hF.go0 U3
  refine opv_run (ext_t (by rfl)) ?_
  refine opv_run (ext_t (by rfl)) ?_
  refine opv_run (ext_t (by rfl)) ?_
  refine alloc_intro (cs := #[.int .i64 0, .int .i64 0, .slice none 0 0, .int .i64 0]) (by kernel_rfl) (fun b4 w4 e4 h_b4 _ U4 => ?_)
  have na_rd1_b4 := rd1.apart e4
  have na_rd2_b4 := rd2.apart e4
  have ne_b1_b4 : b1 ≠ b4 := by have := lt_get h_b1; omega
  have ge_b4 : w.heap.size ≤ b4 := by have := hF.size; omega
  replace rd1 := rd1.upd0 U4
  replace rd2 := rd2.upd0 U4
  replace h_b1 := U4.get0 h_b1
  replace hF := hF.go0 U4
  clear e4
  refine store_intro (n := 4) (cs' := #[.int .i64 xa, .int .i64 xb, .slice xd xe xf, .int .i64 xc]) (by kernel_rfl) (by rfl) (by first | rfl | (simp [Value.cells, Value.oneCell', Gs.cv, Gs.fv]; done)) h_b4 (by first | exact Nat.le_of_ble_eq_true rfl | (simp; done) | omega) (by rfl) (fun w5 N5 _ U5 => ?_)
  replace rd1 := rd1.upd1 U5 na_rd1_b4
  replace rd2 := rd2.upd1 U5 na_rd2_b4
  replace h_b1 := U5.get1 h_b1 ne_b1_b4
  replace h_b4 := N5
  replace hF := hF.go1 U5 ge_b4
  refine opv_run (notF) ?_
  refine gdtf ?_
  refine gdtf ?_
  refine gdtf ?_
  refine pickt ?_
  refine condt ?_
  exact ⟨rfl, hF⟩

set_option maxHeartbeats 2000000 in
/-- greenscreen/greenscreenlaw15.FieldMarks -/
theorem c_FieldMarks_ok {r c : Int} {A : Option Addr} {n cp : Nat} {N : Nat} {cs : List Gs.Cell} {w : World} (rd1 : Rd w A (rows Gs.cv cs)) (hn : n = cs.length) (hnm : n ≤ 9223372036854775807){A2 : Option Addr} {n2 cp2 : Nat} {ms : List Int} (rd2 : Rd w A2 (vals .i64 ms)) (hn2 : n2 = ms.length) (hcw : Gs.Cws cs) (hN : Gs.cellsN r c = N) (hz : N ≠ 0) (hz2 : N ≤ 120) :
    Calls Try.prog 7 #[.agg #[.int .i64 r, .int .i64 c], .slice A n cp, .slice A2 n2 cp2] w fun e w' => e = .returned (.bool true) ∧ Upd no w w' := by
  refine F7.calls ?_
  unfold F7
  subst hn2
  have lt_rd1 := Rd.lt rd1
  have lt_rd2 := Rd.lt rd2
  have hF : Upd no w w := Fr.refl _ _ _
  refine box_intro (by rfl) (fun b1 w1 e1 h_b1 _ U1 => ?_)
  have na_rd1_b1 := rd1.apart e1
  have na_rd2_b1 := rd2.apart e1
  have ge_b1 : w.heap.size ≤ b1 := by have := hF.size; omega
  replace rd1 := rd1.upd0 U1
  replace rd2 := rd2.upd0 U1
  replace hF := hF.go0 U1
  clear e1
  refine callF_T (c_law15_alive) (rfl) (fun w2 U2 => ?_)
  replace rd1 := rd1.upd0 U2
  replace rd2 := rd2.upd0 U2
  replace h_b1 := U2.get0 h_b1
  replace hF := hF.go0 U2
  refine opv_run (notT) ?_
  refine condf ?_
  refine opv_run (ldA (n := 2) (by kernel_rfl) h_b1 (by first | exact Nat.le_of_ble_eq_true rfl | (simp; done) | omega) (by rfl)) ?_
  refine callF_ex (c_made_ok rd1 hn hnm hN hz hz2) (fun v3 w3 D3 => ?_)
  obtain ⟨bp, gp, gx, rfl, gbp, h_bp, own_p, own_x, npx, U3⟩ := D3
  have na_rd1_bp := (Rd.lt rd1).ne (b := bp) (by omega)
  have na_rd2_bp := (Rd.lt rd2).ne (b := bp) (by omega)
  have ne_b1_bp : b1 ≠ bp := by have := lt_get h_b1; omega
  have ge_bp : w.heap.size ≤ bp := by have := hF.size; omega
  have nx3_rd1_own_p : _ ∨ ∀ k, blkOf _ k → ¬ ownS _ k := (Rd.lt rd1).imp_right fun h k hk hs => by have := h k hk; have := (Own.ge own_p hs).1; omega
  have nx3_rd2_own_p : _ ∨ ∀ k, blkOf _ k → ¬ ownS _ k := (Rd.lt rd2).imp_right fun h k hk hs => by have := h k hk; have := (Own.ge own_p hs).1; omega
  have nx3_h_b1_own_p : ¬ ownS _ b1 := fun h => by have := (Own.ge own_p h).1; have := lt_get h_b1; omega
  replace own_p := own_p.mono (B' := w.heap.size) hF.size
  have nx3_rd1_own_x : _ ∨ ∀ k, blkOf _ k → ¬ ownS _ k := (Rd.lt rd1).imp_right fun h k hk hs => by have := h k hk; have := (Own.ge own_x hs).1; omega
  have nx3_rd2_own_x : _ ∨ ∀ k, blkOf _ k → ¬ ownS _ k := (Rd.lt rd2).imp_right fun h k hk hs => by have := h k hk; have := (Own.ge own_x hs).1; omega
  have nx3_h_b1_own_x : ¬ ownS _ b1 := fun h => by have := (Own.ge own_x h).1; have := lt_get h_b1; omega
  replace own_x := own_x.mono (B' := w.heap.size) hF.size
  replace rd1 := rd1.upd0 U3
  replace rd2 := rd2.upd0 U3
  replace h_b1 := U3.get0 h_b1
  replace hF := hF.go0 U3
  obtain ⟨ps, hps⟩ : ∃ ps, ps = Gs.madeK N cs cs.length := ⟨_, rfl⟩
  rw [← hps] at own_p own_x
  have hpl : N = ps.length := by rw [hps, Gs.made_len]
  have hpw : Gs.Cws ps := by rw [hps]; exact Gs.made_w hcw _
  clear hps
  have hb4 : N ≤ 4096 := by omega
  have hal := Gs.allM_len ps
  have hsl := Gs.starts_len_le ps
  refine opv_run (ext_t (by rfl)) ?_
  refine opv_run (ext_t (by rfl)) ?_
  refine opv_run (ext_t (by rfl)) ?_
  refine alloc_intro (cs := #[.int .i64 0, .int .i64 0, .slice none 0 0, .int .i64 0]) (by kernel_rfl) (fun b4 w4 e4 h_b4 _ U4 => ?_)
  have na_rd1_b4 := rd1.apart e4
  have na_rd2_b4 := rd2.apart e4
  have ne_b1_b4 : b1 ≠ b4 := by have := lt_get h_b1; omega
  have ne_bp_b4 : bp ≠ b4 := by have := lt_get h_bp; omega
  have na_own_p_b4 := own_p.apart e4
  have na_own_x_b4 := own_x.apart e4
  have ge_b4 : w.heap.size ≤ b4 := by have := hF.size; omega
  replace rd1 := rd1.upd0 U4
  replace rd2 := rd2.upd0 U4
  replace own_p := own_p.upd0 U4
  replace own_x := own_x.upd0 U4
  replace h_b1 := U4.get0 h_b1
  replace h_bp := U4.get0 h_bp
  replace hF := hF.go0 U4
  clear e4
  refine store_intro (n := 4) (cs' := #[.int .i64 r, .int .i64 c, .slice (some ⟨gx, 0, none⟩) N N, .int .i64 0]) (by kernel_rfl) (by rfl) (by first | rfl | (simp [Value.cells, Value.oneCell', Gs.cv, Gs.fv]; done)) h_b4 (by first | exact Nat.le_of_ble_eq_true rfl | (simp; done) | omega) (by rfl) (fun w5 N5 _ U5 => ?_)
  replace rd1 := rd1.upd1 U5 na_rd1_b4
  replace rd2 := rd2.upd1 U5 na_rd2_b4
  replace own_p := own_p.upd1 U5 na_own_p_b4
  replace own_x := own_x.upd1 U5 na_own_x_b4
  replace h_b1 := U5.get1 h_b1 ne_b1_b4
  replace h_bp := U5.get1 h_bp ne_bp_b4
  replace h_b4 := N5
  replace hF := hF.go1 U5 ge_b4
  refine opv_run (notT) ?_
  refine gdff ?_
  refine gdff ?_
  refine opv_run (len_sl (by kernel_rfl) _ _ _) ?_
  refine gdff ?_
  refine opv_dec (gtr _ _ _ _) (fun h6 => ?_) (fun h6 => ?_)
  · refine pickf ?_
    refine condt ?_
    exact ⟨rfl, hF⟩
  · refine pickf ?_
    refine condf ?_
    refine join_cut (fun g w' => ∃ (qs : List Gs.Cell) (A1 : Option Addr) (c1 : Nat), (N = qs.length) ∧ (Gs.Cws qs) ∧ (w'.heap[b4]? = some (.cells #[.int .i64 r, .int .i64 c, .slice A1 N c1, .int .i64 0] 28 (0, 0))) ∧ (w'.heap[bp]? = some (.cells #[.int .i64 r, .int .i64 c, .slice (some ⟨gp, 0, none⟩) N N, .int .i64 0] 102 (0, 0))) ∧ (Own w.heap.size w' 45 5 (.slice (some ⟨gp, 0, none⟩) N N) (rows Gs.cv qs)) ∧ (Rd w' A1 (rows Gs.cv qs)) ∧ (rows Gs.cv qs = [] ∨ ∀ k, blkOf A1 k → ¬ ownS (.slice (some ⟨gp, 0, none⟩) N N) k) ∧ (rows Gs.cv qs = [] ∨ ∀ k, blkOf A1 k → k ≠ b4) ∧ (Upd no w w')) (fun J1 hJ1 => ?_) (fun gJ1 wJ1 hI => ?_)
    · refine opv_run (len_sl (by kernel_rfl) _ _ _) ?_
      refine loop_intro (fun g w' => ∃ (k : Nat) (qs : List Gs.Cell) (A1 : Option Addr) (c1 : Nat), (g 35 = .int .i64 (k : Int)) ∧ (k ≤ ms.length) ∧ (N = qs.length) ∧ (Gs.Cws qs) ∧ (w'.heap[b4]? = some (.cells #[.int .i64 r, .int .i64 c, .slice A1 N c1, .int .i64 0] 28 (0, 0))) ∧ (w'.heap[bp]? = some (.cells #[.int .i64 r, .int .i64 c, .slice (some ⟨gp, 0, none⟩) N N, .int .i64 0] 102 (0, 0))) ∧ (Own w.heap.size w' 45 5 (.slice (some ⟨gp, 0, none⟩) N N) (rows Gs.cv qs)) ∧ (Rd w' A1 (rows Gs.cv qs)) ∧ (rows Gs.cv qs = [] ∨ ∀ k, blkOf A1 k → ¬ ownS (.slice (some ⟨gp, 0, none⟩) N N) k) ∧ (rows Gs.cv qs = [] ∨ ∀ k, blkOf A1 k → k ≠ b4) ∧ (Rd w' A2 (vals .i64 ms)) ∧ (Upd no w w')) (fun g w' => ms.length - (RowKit.intOf (g 35)).toNat) ?_ (fun g2 wl2 hI => ?_)
      · exact ⟨0, _, _, _, (by first | exact g35 | rfl), Nat.zero_le _, hpl, hpw, h_b4, h_bp, own_p, own_x.rdS, (.inr fun k hk ho => by obtain ⟨a, ea, hk⟩ := hk; cases ea; cases ho; exact npx hk.symm), (.inr fun k hk => by obtain ⟨a, ea, hk⟩ := hk; cases ea; subst hk; exact na_own_x_b4 _ rfl), rd2, hF⟩
      · obtain ⟨k, qs, A1, c1, g35, hk, hql, hqw, h_b4, h_bp, own_p, rdx, hs1, hs3, rd2, hF⟩ := hI
        try rw [g35]
        refine opv_dec (lss _ _ _ _) (fun h8 => ?_) (fun h8 => ?_)
        · refine condt ?_
          refine idx_int (by kernel_rfl) (by kernel_rfl) rd2 (by first | rfl | assumption | omega | (simp; done) | (simp [vals_length, *]; done) | (simp [vals_length] at *; omega)) (by omega) (by omega) (fun x9 hx9 => ?_)
          try simp only [Int.toNat_natCast] at hx9
          refine opv_run (ldA (n := 4) (cs' := #[.int .i64 r, .int .i64 c, .slice A1 N c1, .int .i64 0]) (by kernel_rfl) h_b4 (by first | exact Nat.le_of_ble_eq_true rfl | (simp; done) | omega) (by rfl)) ?_
          refine callF_val (c_ref15_Of rdx hql hb4 (i := x9) hqw) (fun w10 U10 => ?_)
          replace own_p := own_p.upd0 U10
          replace rdx := rdx.upd0 U10
          replace rd2 := rd2.upd0 U10
          replace h_b4 := U10.get0 h_b4
          replace h_bp := U10.get0 h_bp
          replace hF := hF.go0 U10
          refine opv_run (ext_t (by rfl)) ?_
          refine opv_run (ext_t (by rfl)) ?_
          refine alloc_intro (cs := (Gs.fv Gs.zf).toArray) (by kernel_rfl) (fun b11 w11 e11 h_b11 _ U11 => ?_)
          have ne_b4_b11 : b4 ≠ b11 := by have := lt_get h_b4; omega
          have ne_bp_b11 : bp ≠ b11 := by have := lt_get h_bp; omega
          have na_own_p_b11 := own_p.apart e11
          have na_rdx_b11 := rdx.apart e11
          have na_rd2_b11 := rd2.apart e11
          have ge_b11 : w.heap.size ≤ b11 := by have := hF.size; omega
          replace own_p := own_p.upd0 U11
          replace rdx := rdx.upd0 U11
          replace rd2 := rd2.upd0 U11
          replace h_b4 := U11.get0 h_b4
          replace h_bp := U11.get0 h_bp
          replace hF := hF.go0 U11
          clear e11
          refine store_intro (n := 3) (cs' := (Gs.fv (Gs.ofM qs x9)).toArray) (by kernel_rfl) (by rfl) (by first | rfl | (simp [Value.cells, Value.oneCell', Gs.cv, Gs.fv]; done)) h_b11 (by first | exact Nat.le_of_ble_eq_true rfl | (simp; done) | omega) (by rfl) (fun w12 N12 _ U12 => ?_)
          replace own_p := own_p.upd1 U12 na_own_p_b11
          replace rdx := rdx.upd1 U12 na_rdx_b11
          replace rd2 := rd2.upd1 U12 na_rd2_b11
          replace h_b4 := U12.get1 h_b4 ne_b4_b11
          replace h_bp := U12.get1 h_bp ne_bp_b11
          replace h_b11 := N12
          replace hF := hF.go1 U12 ge_b11
          refine opv_run (ldA (n := 4) (cs' := #[.int .i64 r, .int .i64 c, .slice A1 N c1, .int .i64 0]) (by kernel_rfl) h_b4 (by first | exact Nat.le_of_ble_eq_true rfl | (simp; done) | omega) (by rfl)) ?_
          have qF_47 := hF.size
          have q1_47 := Own.lt own_p
          have q3_47 := lt_get h_b4
          have hne : rows Gs.cv qs ≠ [] := fun he => by have := congrArg List.length he; rw [rows_len Gs.encC] at this; simp only [List.length_nil] at this; omega
          refine callF_ex (c_ref15_Mark_T rdx hql hb4 (i := x9) hqw) (fun v13 w13 D13 => ?_)
          obtain ⟨A47, c47, rfl, rd47, hA47, U13⟩ := D13
          replace own_p := own_p.upd0 U13
          replace rdx := rdx.upd0 U13
          replace rd2 := rd2.upd0 U13
          replace h_b4 := U13.get0 h_b4
          replace h_bp := U13.get0 h_bp
          replace h_b11 := U13.get0 h_b11
          replace hF := hF.go0 U13
          have hs1_47 : rows Gs.cv (Gs.markQ true qs x9) = [] ∨ ∀ k, blkOf A47 k → ¬ ownS (.slice (some ⟨gp, 0, none⟩) N N) k := .inr fun k hk => (hA47 k hk).elim ((hs1.resolve_left hne) k) (fun h => fun ho => by have := q1_47 k ho; omega)
          have hs3_47 : rows Gs.cv (Gs.markQ true qs x9) = [] ∨ ∀ k, blkOf A47 k → k ≠ b4 := .inr fun k hk => (hA47 k hk).elim ((hs3.resolve_left hne) k) (fun h => by omega)
          refine store_intro (n := 4) (cs' := #[.int .i64 r, .int .i64 c, .slice A47 N c47, .int .i64 0]) (by kernel_rfl) (by rfl) (by first | rfl | (simp [Value.cells, Value.oneCell', Gs.cv, Gs.fv]; done)) h_b4 (by first | exact Nat.le_of_ble_eq_true rfl | (simp; done) | omega) (by rfl) (fun w14 N14 _ U14 => ?_)
          replace own_p := own_p.upd1 U14 na_own_p_b4
          replace rdx := rdx.upd1 U14 (by assumption)
          replace rd2 := rd2.upd1 U14 na_rd2_b4
          replace rd47 := rd47.upd1 U14 (by assumption)
          replace h_bp := U14.get1 h_bp ne_bp_b4
          replace h_b11 := U14.get1 h_b11 (Ne.symm ne_b4_b11)
          replace h_b4 := N14
          replace hF := hF.go1 U14 ge_b4
          refine callF_ex (c_field_Mark h_bp own_p hql (i := x9) hN hb4 hqw) (fun v15 w15 D15 => ?_)
          obtain ⟨rfl, N15, U15⟩ := D15
          have own_p_o := own_p
          replace h_b4 := U15.get h_b4 (fun h => na_own_p_b4 _ h rfl)
          replace h_bp := U15.get h_bp (fun h => by first | (have := Own.ge own_p_o h; omega) | exact Own.ne_blk own_p_o h_bp (by decide) _ h rfl | exact Own.not_loop own_p_o h_bp (by assumption) _ h rfl | exact Own.not_def own_p_o h_bp _ h rfl | simp_all)
          replace own_p := N15
          replace rdx := rdx.updS U15 hs1
          replace rd2 := rd2.updS U15 nx3_rd2_own_p
          replace h_b11 := U15.get h_b11 (fun h => na_own_p_b11 _ h rfl)
          replace rd47 := rd47.updS U15 hs1_47
          replace hF := hF.go U15 (fun i h hs => by first | exact hs | exact .inl hs | exact .inr hs | (have := (Own.ge own_p_o hs).1; omega))
          clear own_p_o
          refine opv_F (neB _ _ (by kernel_rfl) _ _) (fun hne => hne rfl) ?_
          refine gdff ?_
          refine gdff ?_
          refine opv_run (ldA (n := 4) (cs' := #[.int .i64 r, .int .i64 c, .slice A47 N c47, .int .i64 0]) (by kernel_rfl) h_b4 (by first | exact Nat.le_of_ble_eq_true rfl | (simp; done) | omega) (by rfl)) ?_
          refine gdff ?_
          refine callF_T (c_law15_same h_bp own_p (by rw [Gs.markC_len]; exact hql) rd47 hb4) (rfl) (fun w16 U16 => ?_)
          replace own_p := own_p.upd0 U16
          replace rdx := rdx.upd0 U16
          replace rd2 := rd2.upd0 U16
          replace rd47 := rd47.upd0 U16
          replace h_b4 := U16.get0 h_b4
          replace h_bp := U16.get0 h_bp
          replace h_b11 := U16.get0 h_b11
          replace hF := hF.go0 U16
          refine gdff ?_
          refine opv_run (notT) ?_
          refine pickf ?_
          refine condf ?_
          first | refine opv_run (add_i64 _ (by omega)) ?_ | refine opv_run (addI _ _ _ _) ?_
          exact ⟨⟨k + 1, _, _, _, (by first | exact g35 | rfl), by omega, (by rw [Gs.markC_len]; exact hql), (Gs.markC_w hqw _), h_b4, h_bp, own_p, rd47, hs1_47, hs3_47, rd2, hF⟩, cnt_lt (by first | rfl | exact g35) rfl (by omega)⟩
        · refine condf ?_
          refine hJ1 _ _ ?_
          exact ⟨_, _, _, hql, hqw, h_b4, h_bp, own_p, rdx, hs1, hs3, hF⟩
    · obtain ⟨qs, A1, c1, hql, hqw, h_b4, h_bp, own_p, rdx, hs1, hs3, hF⟩ := hI
      refine join_cut (fun g w' => ∃ (A1 : Option Addr) (c1 : Nat), (g 14 = .int .i64 (Gs.unmN qs (Gs.startsN qs).length : Nat)) ∧ (w'.heap[b4]? = some (.cells #[.int .i64 r, .int .i64 c, .slice A1 N c1, .int .i64 0] 28 (0, 0))) ∧ (w'.heap[bp]? = some (.cells #[.int .i64 r, .int .i64 c, .slice (some ⟨gp, 0, none⟩) N N, .int .i64 0] 102 (0, 0))) ∧ (Own w.heap.size w' 45 5 (.slice (some ⟨gp, 0, none⟩) N N) (rows Gs.cv qs)) ∧ (Rd w' A1 (rows Gs.cv (Gs.unmC qs (Gs.startsN qs)))) ∧ (rows Gs.cv (Gs.unmC qs (Gs.startsN qs)) = [] ∨ ∀ k, blkOf A1 k → ¬ ownS (.slice (some ⟨gp, 0, none⟩) N N) k) ∧ (rows Gs.cv (Gs.unmC qs (Gs.startsN qs)) = [] ∨ ∀ k, blkOf A1 k → k ≠ b4) ∧ (Upd no w w')) (fun J3 hJ3 => ?_) (fun gJ3 wJ3 hI => ?_)
      · refine opv_run (ldA (n := 4) (cs' := #[.int .i64 r, .int .i64 c, .slice A1 N c1, .int .i64 0]) (by kernel_rfl) h_b4 (by first | exact Nat.le_of_ble_eq_true rfl | (simp; done) | omega) (by rfl)) ?_
        refine callF_ex (c_ref15_All rdx hql hb4 hqw) (fun v17 w17 D17 => ?_)
        obtain ⟨A61, c61, rfl, rd61, gA61, U17⟩ := D17
        have na_rd61_b4 := gA61.ne (lt_get h_b4)
        have na_rd61_bp := gA61.ne (lt_get h_bp)
        have na_rd61_own_p : _ ∨ ∀ k, blkOf _ k → ¬ ownS _ k := gA61.imp_right fun h k hk hs => by have := h k hk; have := (Own.ge own_p hs).2; omega
        replace own_p := own_p.upd0 U17
        replace rdx := rdx.upd0 U17
        replace h_b4 := U17.get0 h_b4
        replace h_bp := U17.get0 h_bp
        replace hF := hF.go0 U17
        have hqa := Gs.allM_len qs
        refine opv_run (len_sl (by kernel_rfl) _ _ _) ?_
        refine loop_intro (fun g w' => ∃ (k : Nat) (A1 : Option Addr) (c1 : Nat), (g 63 = .int .i64 (k : Int)) ∧ (k ≤ (Gs.allM qs).length) ∧ (g 14 = .int .i64 (Gs.unmN qs k : Nat)) ∧ (w'.heap[b4]? = some (.cells #[.int .i64 r, .int .i64 c, .slice A1 N c1, .int .i64 0] 28 (0, 0))) ∧ (w'.heap[bp]? = some (.cells #[.int .i64 r, .int .i64 c, .slice (some ⟨gp, 0, none⟩) N N, .int .i64 0] 102 (0, 0))) ∧ (Own w.heap.size w' 45 5 (.slice (some ⟨gp, 0, none⟩) N N) (rows Gs.cv qs)) ∧ (Rd w' A1 (rows Gs.cv (Gs.unmC qs ((Gs.startsN qs).take k)))) ∧ (rows Gs.cv (Gs.unmC qs ((Gs.startsN qs).take k)) = [] ∨ ∀ k, blkOf A1 k → ¬ ownS (.slice (some ⟨gp, 0, none⟩) N N) k) ∧ (rows Gs.cv (Gs.unmC qs ((Gs.startsN qs).take k)) = [] ∨ ∀ k, blkOf A1 k → k ≠ b4) ∧ (Rd w' A61 (rows Gs.fv (Gs.allM qs))) ∧ (Upd no w w')) (fun g w' => (Gs.allM qs).length - (RowKit.intOf (g 63)).toNat) ?_ (fun g4 wl4 hI => ?_)
        · exact ⟨0, _, _, (by first | exact g63 | rfl), Nat.zero_le _, rfl, h_b4, h_bp, own_p, (by rw [List.take_zero]; exact rdx), (by rw [List.take_zero]; exact hs1), (by rw [List.take_zero]; exact hs3), rd61, hF⟩
        · obtain ⟨k, A1, c1, g63, hk, g14, h_b4, h_bp, own_p, rdx, hs1, hs3, rd61, hF⟩ := hI
          try rw [g63]
          try rw [g14]
          have hsl := Gs.starts_len_le qs
          have hle := Gs.unmN_le qs k
          refine opv_dec (lss _ _ _ _) (fun h18 => ?_) (fun h18 => ?_)
          · refine condt ?_
            refine join_cut (fun g w' => ∃ (A1 : Option Addr) (c1 : Nat), (g 14 = .int .i64 (Gs.unmN qs (k + 1) : Nat)) ∧ (w'.heap[b4]? = some (.cells #[.int .i64 r, .int .i64 c, .slice A1 N c1, .int .i64 0] 28 (0, 0))) ∧ (w'.heap[bp]? = some (.cells #[.int .i64 r, .int .i64 c, .slice (some ⟨gp, 0, none⟩) N N, .int .i64 0] 102 (0, 0))) ∧ (Own w.heap.size w' 45 5 (.slice (some ⟨gp, 0, none⟩) N N) (rows Gs.cv qs)) ∧ (Rd w' A1 (rows Gs.cv (Gs.unmC qs ((Gs.startsN qs).take (k + 1))))) ∧ (rows Gs.cv (Gs.unmC qs ((Gs.startsN qs).take (k + 1))) = [] ∨ ∀ k, blkOf A1 k → ¬ ownS (.slice (some ⟨gp, 0, none⟩) N N) k) ∧ (rows Gs.cv (Gs.unmC qs ((Gs.startsN qs).take (k + 1))) = [] ∨ ∀ k, blkOf A1 k → k ≠ b4) ∧ (Rd w' A61 (rows Gs.fv (Gs.allM qs))) ∧ (Upd no w w')) (fun J5 hJ5 => ?_) (fun gJ5 wJ5 hI => ?_)
            · refine idx_rows Gs.encF (by kernel_rfl) (by kernel_rfl) rd61 (by first | rfl | assumption | omega) (by omega) (by omega) (fun x19 hx19 => ?_)
              try simp only [Int.toNat_natCast] at hx19
              have hxa := Gs.all_a hqw hx19
              have hxi := Gs.all_in hx19
              refine alloc_intro (cs := (Gs.fv Gs.zf).toArray) (by kernel_rfl) (fun b20 w20 e20 h_b20 _ U20 => ?_)
              have ne_b4_b20 : b4 ≠ b20 := by have := lt_get h_b4; omega
              have ne_bp_b20 : bp ≠ b20 := by have := lt_get h_bp; omega
              have na_own_p_b20 := own_p.apart e20
              have na_rdx_b20 := rdx.apart e20
              have na_rd61_b20 := rd61.apart e20
              have ge_b20 : w.heap.size ≤ b20 := by have := hF.size; omega
              replace own_p := own_p.upd0 U20
              replace rdx := rdx.upd0 U20
              replace rd61 := rd61.upd0 U20
              replace h_b4 := U20.get0 h_b4
              replace h_bp := U20.get0 h_bp
              replace hF := hF.go0 U20
              clear e20
              refine store_intro (n := 3) (cs' := (Gs.fv x19).toArray) (by kernel_rfl) (by rfl) (by first | rfl | (simp [Value.cells, Value.oneCell', Gs.cv, Gs.fv]; done)) h_b20 (by first | exact Nat.le_of_ble_eq_true rfl | (simp; done) | omega) (by rfl) (fun w21 N21 _ U21 => ?_)
              replace own_p := own_p.upd1 U21 na_own_p_b20
              replace rdx := rdx.upd1 U21 na_rdx_b20
              replace rd61 := rd61.upd1 U21 na_rd61_b20
              replace h_b4 := U21.get1 h_b4 ne_b4_b20
              replace h_bp := U21.get1 h_bp ne_bp_b20
              replace h_b20 := N21
              replace hF := hF.go1 U21 ge_b20
              refine opv_run (fieldAt_eq (off := 2) (by kernel_rfl)) ?_
              refine opv_run (ldC (by kernel_rfl) h_b20 (by rfl)) ?_
              refine opv_run (rem_u8 _ (by omega) (by omega)) ?_
              refine opv_dec (eqI _ _ _ _ _) (fun h22 => ?_) (fun h22 => ?_)
              · refine condt ?_
                first | refine opv_run (add_i64 _ (by omega)) ?_ | refine opv_run (addI _ _ _ _) ?_
                refine opv_run (ldA (n := 4) (cs' := #[.int .i64 r, .int .i64 c, .slice A1 N c1, .int .i64 0]) (by kernel_rfl) h_b4 (by first | exact Nat.le_of_ble_eq_true rfl | (simp; done) | omega) (by rfl)) ?_
                refine opv_run (fieldAt_eq (off := 0) (by kernel_rfl)) ?_
                refine opv_run (ldC (by kernel_rfl) h_b20 (by rfl)) ?_
                have qF_76 := hF.size
                have q1_76 := Own.lt own_p
                have q3_76 := lt_get h_b4
                have hne : rows Gs.cv (Gs.unmC qs ((Gs.startsN qs).take k)) ≠ [] := fun he => by have := congrArg List.length he; rw [rows_len Gs.encC, ← Gs.unm_len] at this; simp only [List.length_nil] at this; omega
                refine callF_ex (c_ref15_Mark_F rdx (hql.trans (Gs.unm_len qs _)) hb4 (i := x19.s) (Gs.unm_w hqw _)) (fun v23 w23 D23 => ?_)
                obtain ⟨A76, c76, rfl, rd76, hA76, U23⟩ := D23
                replace own_p := own_p.upd0 U23
                replace rdx := rdx.upd0 U23
                replace rd61 := rd61.upd0 U23
                replace h_b4 := U23.get0 h_b4
                replace h_bp := U23.get0 h_bp
                replace h_b20 := U23.get0 h_b20
                replace hF := hF.go0 U23
                have hs1_76 : rows Gs.cv (Gs.markQ false (Gs.unmC qs ((Gs.startsN qs).take k)) x19.s) = [] ∨ ∀ k, blkOf A76 k → ¬ ownS (.slice (some ⟨gp, 0, none⟩) N N) k := .inr fun k hk => (hA76 k hk).elim ((hs1.resolve_left hne) k) (fun h => fun ho => by have := q1_76 k ho; omega)
                have hs3_76 : rows Gs.cv (Gs.markQ false (Gs.unmC qs ((Gs.startsN qs).take k)) x19.s) = [] ∨ ∀ k, blkOf A76 k → k ≠ b4 := .inr fun k hk => (hA76 k hk).elim ((hs3.resolve_left hne) k) (fun h => by omega)
                refine store_intro (n := 4) (cs' := #[.int .i64 r, .int .i64 c, .slice A76 N c76, .int .i64 0]) (by kernel_rfl) (by rfl) (by first | rfl | (simp [Value.cells, Value.oneCell', Gs.cv, Gs.fv]; done)) h_b4 (by first | exact Nat.le_of_ble_eq_true rfl | (simp; done) | omega) (by rfl) (fun w24 N24 _ U24 => ?_)
                replace own_p := own_p.upd1 U24 na_own_p_b4
                replace rdx := rdx.upd1 U24 (by assumption)
                replace rd61 := rd61.upd1 U24 na_rd61_b4
                replace rd76 := rd76.upd1 U24 (by assumption)
                replace h_bp := U24.get1 h_bp ne_bp_b4
                replace h_b20 := U24.get1 h_b20 (Ne.symm ne_b4_b20)
                replace h_b4 := N24
                replace hF := hF.go1 U24 ge_b4
                refine hJ5 _ _ ?_
                exact ⟨_, _, (by first | (rw [Gs.unmA_T' hx19 (by assumption)]; rfl) | (rw [Gs.unmA_F' hx19 (by assumption)]; first | exact g14 | rfl)), h_b4, h_bp, own_p, (by first | (rw [← Gs.markQ_unm hx19 (by assumption)]; exact rd76) | (rw [Gs.unmA_F hx19 (by assumption)]; exact rdx)), (by first | (rw [← Gs.markQ_unm hx19 (by assumption)]; exact hs1_76) | (rw [Gs.unmA_F hx19 (by assumption)]; exact hs1)), (by first | (rw [← Gs.markQ_unm hx19 (by assumption)]; exact hs3_76) | (rw [Gs.unmA_F hx19 (by assumption)]; exact hs3)), rd61, hF⟩
              · refine condf ?_
                refine hJ5 _ _ ?_
                exact ⟨_, _, (by first | (rw [Gs.unmA_T' hx19 (by assumption)]; rfl) | (rw [Gs.unmA_F' hx19 (by assumption)]; first | exact g14 | rfl)), h_b4, h_bp, own_p, (by first | (rw [← Gs.markQ_unm hx19 (by assumption)]; exact rd76) | (rw [Gs.unmA_F hx19 (by assumption)]; exact rdx)), (by first | (rw [← Gs.markQ_unm hx19 (by assumption)]; exact hs1_76) | (rw [Gs.unmA_F hx19 (by assumption)]; exact hs1)), (by first | (rw [← Gs.markQ_unm hx19 (by assumption)]; exact hs3_76) | (rw [Gs.unmA_F hx19 (by assumption)]; exact hs3)), rd61, hF⟩
            · obtain ⟨A1, c1, g14, h_b4, h_bp, own_p, rdx, hs1, hs3, rd61, hF⟩ := hI
              try rw [g14]
              first | refine opv_run (add_i64 _ (by omega)) ?_ | refine opv_run (addI _ _ _ _) ?_
              exact ⟨⟨k + 1, _, _, (by first | exact g63 | rfl), by omega, (by first | exact g14 | rfl), h_b4, h_bp, own_p, rdx, hs1, hs3, rd61, hF⟩, cnt_lt (by first | rfl | exact g63) rfl (by omega)⟩
          · refine condf ?_
            refine hJ3 _ _ ?_
            exact ⟨_, _, (by rw [show (Gs.startsN qs).length = k by omega]; first | exact g14 | rfl), h_b4, h_bp, own_p, (by rw [show (Gs.startsN qs) = (Gs.startsN qs).take k by rw [List.take_of_length_le (by omega)]]; exact rdx), (by rw [show (Gs.startsN qs) = (Gs.startsN qs).take k by rw [List.take_of_length_le (by omega)]]; exact hs1), (by rw [show (Gs.startsN qs) = (Gs.startsN qs).take k by rw [List.take_of_length_le (by omega)]]; exact hs3), hF⟩
      · obtain ⟨A1, c1, g14, h_b4, h_bp, own_p, rdx, hs1, hs3, hF⟩ := hI
        try rw [g14]
        refine callF_ex (c_field_Unmark h_bp own_p hql hN hb4 hqw) (fun v25 w25 D25 => ?_)
        obtain ⟨rfl, N25, U25⟩ := D25
        have own_p_o := own_p
        replace h_b4 := U25.get h_b4 (fun h => na_own_p_b4 _ h rfl)
        replace h_bp := U25.get h_bp (fun h => by first | (have := Own.ge own_p_o h; omega) | exact Own.ne_blk own_p_o h_bp (by decide) _ h rfl | exact Own.not_loop own_p_o h_bp (by assumption) _ h rfl | exact Own.not_def own_p_o h_bp _ h rfl | simp_all)
        replace own_p := N25
        replace rdx := rdx.updS U25 hs1
        replace hF := hF.go U25 (fun i h hs => by first | exact hs | exact .inl hs | exact .inr hs | (have := (Own.ge own_p_o hs).1; omega))
        clear own_p_o
        refine opv_T (eqI _ _ _ _ _) (rfl) ?_
        refine gdtt ?_
        refine gdtt ?_
        refine opv_run (ldA (n := 4) (cs' := #[.int .i64 r, .int .i64 c, .slice A1 N c1, .int .i64 0]) (by kernel_rfl) h_b4 (by first | exact Nat.le_of_ble_eq_true rfl | (simp; done) | omega) (by rfl)) ?_
        refine gdtt ?_
        refine callF_T (c_law15_same h_bp own_p (hql.trans (Gs.unm_len qs _)) rdx hb4) (rfl) (fun w26 U26 => ?_)
        replace own_p := own_p.upd0 U26
        replace rdx := rdx.upd0 U26
        replace h_b4 := U26.get0 h_b4
        replace h_bp := U26.get0 h_bp
        replace hF := hF.go0 U26
        refine pickt ?_
        refine gdtt ?_
        refine gdtt ?_
        refine callF_ex (c_field_Unmark h_bp own_p (hql.trans (Gs.unm_len qs _)) hN hb4 (Gs.unm_w hqw _)) (fun v27 w27 D27 => ?_)
        obtain ⟨rfl, N27, U27⟩ := D27
        have own_p_o := own_p
        replace h_b4 := U27.get h_b4 (fun h => na_own_p_b4 _ h rfl)
        replace h_bp := U27.get h_bp (fun h => by first | (have := Own.ge own_p_o h; omega) | exact Own.ne_blk own_p_o h_bp (by decide) _ h rfl | exact Own.not_loop own_p_o h_bp (by assumption) _ h rfl | exact Own.not_def own_p_o h_bp _ h rfl | simp_all)
        replace own_p := N27
        replace rdx := rdx.updS U27 hs1
        replace hF := hF.go U27 (fun i h hs => by first | exact hs | exact .inl hs | exact .inr hs | (have := (Own.ge own_p_o hs).1; omega))
        clear own_p_o
        refine gdtt ?_
        refine opv_T (eqI _ _ _ _ _) (by rw [Gs.unm2]; rfl) ?_
        refine pickt ?_
        exact ⟨rfl, hF⟩

end Go.Proofs.Ytojcbhkhfcddnaa
