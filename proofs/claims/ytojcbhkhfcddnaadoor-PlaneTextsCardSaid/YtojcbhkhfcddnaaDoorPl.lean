/-
  Contracts of functions of the program, walked over their shallow forms. No condition but the ones that each states.
-/
import Derived.Test.YtojcbhkhfcddnaaDoorPk
namespace Go.Proofs.YtojcbhkhfcddnaaDoor
open Go Go.Sh
set_option linter.unusedVariables false
set_option maxRecDepth 100000


/-- greenscreen/greenscreenlaw14.PlanePlays -/
theorem c_PlanePlays_0 {r c : Int} {A2 : Option Addr} {n2 cp2 N : Nat} {os : List Gs.Opn} {w : World} (rd2 : Rd w A2 (rows Gs.ov os)) (hn2 : n2 = os.length) (hn2m : n2 ≤ 9223372036854775807) (hz : Gs.cellsN r c = 0) :
    Calls Tryd.prog 3 #[.agg #[.int .i64 r, .int .i64 c], .slice A2 n2 cp2] w fun e w' => e = .returned (.bool true) ∧ Upd no w w' := by
  refine F3.calls ?_
  unfold F3
  have lt_rd2 := Rd.lt rd2
  have hF : Upd no w w := Fr.refl _ _ _
  refine box_intro (by rfl) (fun b1 w1 e1 h_b1 _ U1 => ?_)
  have na_rd2_b1 := rd2.apart e1
  have ge_b1 : w.heap.size ≤ b1 := by have := hF.size; omega
  replace rd2 := rd2.upd0 U1
  replace hF := hF.go0 U1
  clear e1
  refine callF_T (c_law14_alive) (rfl) (fun w2 U2 => ?_)
  replace rd2 := rd2.upd0 U2
  replace h_b1 := U2.get0 h_b1
  replace hF := hF.go0 U2
  refine opv_run (notT) ?_
  refine condf ?_
  refine opv_run (len_sl (by kernel_rfl) _ _ _) ?_
  refine opv_dec (gtr _ _ _ _) (fun h3 => ?_) (fun h3 => ?_)
  · refine gdtf ?_
    refine gdtf ?_
    refine gdtf ?_
    refine gdtf ?_
    refine gdtf ?_
    refine gdtf ?_
    refine pickt ?_
    refine condt ?_
    exact ⟨rfl, hF⟩
  · refine gdff ?_
    refine opv_run (fieldAt_eq (off := 0) (by kernel_rfl)) ?_
    refine gdff ?_
    refine opv_run (ldC (by kernel_rfl) h_b1 (by rfl)) ?_
    refine gdff ?_
    refine opv_run (fieldAt_eq (off := 1) (by kernel_rfl)) ?_
    refine gdff ?_
    refine opv_run (ldC (by kernel_rfl) h_b1 (by rfl)) ?_
    refine gdff ?_
    first | refine opv_run (mul_i64 _ (by omega)) ?_ | refine opv_run (mulI _ _ _ _) ?_
    refine gdff ?_
    refine opv_dec (gtr _ _ _ _) (fun h5 => ?_) (fun h5 => ?_)
    · refine pickf ?_
      refine condt ?_
      exact ⟨rfl, hF⟩
    · refine pickf ?_
      refine condf ?_
      refine opv_run (ldA (n := 2) (by kernel_rfl) h_b1 (by first | exact Nat.le_of_ble_eq_true rfl | (simp; done) | omega) (by rfl)) ?_
      refine callF_val (c_plane_New0 hz) (fun w7 U7 => ?_)
      replace rd2 := rd2.upd0 U7
      replace h_b1 := U7.get0 h_b1
      replace hF := hF.go0 U7
      refine opv_run (ext_t (by rfl)) ?_
      refine opv_run (ext_t (by rfl)) ?_
      refine opv_run (ldA (n := 2) (by kernel_rfl) h_b1 (by first | exact Nat.le_of_ble_eq_true rfl | (simp; done) | omega) (by rfl)) ?_
      refine callF_val (c_ref14_New0 hz) (fun w8 U8 => ?_)
      replace rd2 := rd2.upd0 U8
      replace h_b1 := U8.get0 h_b1
      replace hF := hF.go0 U8
      refine opv_run (ext_t (by rfl)) ?_
      refine opv_run (ext_t (by rfl)) ?_
      refine alloc_intro (cs := #[.int .i64 0, .int .i64 0, .slice none 0 0, .int .i64 0]) (by kernel_rfl) (fun b9 w9 e9 h_b9 _ U9 => ?_)
      have na_rd2_b9 := rd2.apart e9
      have ne_b1_b9 : b1 ≠ b9 := by have := lt_get h_b1; omega
      have ge_b9 : w.heap.size ≤ b9 := by have := hF.size; omega
      replace rd2 := rd2.upd0 U9
      replace h_b1 := U9.get0 h_b1
      replace hF := hF.go0 U9
      clear e9
      refine store_intro (n := 4) (cs' := #[.int .i64 0, .int .i64 0, .slice none 0 0, .int .i64 0]) (by kernel_rfl) (by rfl) (by first | rfl | (simp [Value.cells, Value.oneCell', Gs.cv, Gs.ov]; done)) h_b9 (by first | exact Nat.le_of_ble_eq_true rfl | (simp; done) | omega) (by rfl) (fun w10 N10 _ U10 => ?_)
      replace rd2 := rd2.upd1 U10 na_rd2_b9
      replace h_b1 := U10.get1 h_b1 ne_b1_b9
      replace h_b9 := N10
      replace hF := hF.go1 U10 ge_b9
      refine opv_T (neI _ _ _ _ _) (by decide) ?_
      refine condt ?_
      refine opv_T (eqI _ _ _ _ _) (rfl) ?_
      refine gdtt ?_
      refine gdtt ?_
      refine opv_run (v := .bool true) (eqPN (e := 66) (by kernel_rfl)) ?_
      refine pickt ?_
      exact ⟨rfl, hF⟩

/-- greenscreen/greenscreenlaw14.PlanePlays -/
theorem c_PlanePlays_ok {r c : Int} {A2 : Option Addr} {n2 cp2 N : Nat} {os : List Gs.Opn} {w : World} (rd2 : Rd w A2 (rows Gs.ov os)) (hn2 : n2 = os.length) (hn2m : n2 ≤ 9223372036854775807) (how : ∀ o ∈ os, Gs.Ow o) (hN : Gs.cellsN r c = N) (hz : N ≠ 0) :
    Calls Tryd.prog 3 #[.agg #[.int .i64 r, .int .i64 c], .slice A2 n2 cp2] w fun e w' => e = .returned (.bool true) ∧ Upd no w w' := by
  refine F3.calls ?_
  unfold F3
  have lt_rd2 := Rd.lt rd2
  have hF : Upd no w w := Fr.refl _ _ _
  refine box_intro (by rfl) (fun b1 w1 e1 h_b1 _ U1 => ?_)
  have na_rd2_b1 := rd2.apart e1
  have ge_b1 : w.heap.size ≤ b1 := by have := hF.size; omega
  replace rd2 := rd2.upd0 U1
  replace hF := hF.go0 U1
  clear e1
  refine callF_T (c_law14_alive) (rfl) (fun w2 U2 => ?_)
  replace rd2 := rd2.upd0 U2
  replace h_b1 := U2.get0 h_b1
  replace hF := hF.go0 U2
  refine opv_run (notT) ?_
  refine condf ?_
  refine opv_run (len_sl (by kernel_rfl) _ _ _) ?_
  refine opv_dec (gtr _ _ _ _) (fun h3 => ?_) (fun h3 => ?_)
  · refine gdtf ?_
    refine gdtf ?_
    refine gdtf ?_
    refine gdtf ?_
    refine gdtf ?_
    refine gdtf ?_
    refine pickt ?_
    refine condt ?_
    exact ⟨rfl, hF⟩
  · refine gdff ?_
    refine opv_run (fieldAt_eq (off := 0) (by kernel_rfl)) ?_
    refine gdff ?_
    refine opv_run (ldC (by kernel_rfl) h_b1 (by rfl)) ?_
    refine gdff ?_
    refine opv_run (fieldAt_eq (off := 1) (by kernel_rfl)) ?_
    refine gdff ?_
    refine opv_run (ldC (by kernel_rfl) h_b1 (by rfl)) ?_
    refine gdff ?_
    first | refine opv_run (mul_i64 _ (by omega)) ?_ | refine opv_run (mulI _ _ _ _) ?_
    refine gdff ?_
    refine opv_dec (gtr _ _ _ _) (fun h5 => ?_) (fun h5 => ?_)
    · refine pickf ?_
      refine condt ?_
      exact ⟨rfl, hF⟩
    · refine pickf ?_
      refine condf ?_
      refine opv_run (ldA (n := 2) (by kernel_rfl) h_b1 (by first | exact Nat.le_of_ble_eq_true rfl | (simp; done) | omega) (by rfl)) ?_
      have hz2 : N ≤ 200 := Gs.plays_bd hN hz (by assumption)
      refine callF_ex (c_plane_New1 (r := r) (c := c) (by omega)) (fun v7 w7 D7 => ?_)
      obtain ⟨bp, gp, rfl, gbp, h_bp, own_p, U7⟩ := D7
      rw [show (Gs.cellsN r c).toNat = N by omega] at h_bp own_p
      have na_rd2_bp := (Rd.lt rd2).ne (b := bp) (by omega)
      have ne_b1_bp : b1 ≠ bp := by have := lt_get h_b1; omega
      have ge_bp : w.heap.size ≤ bp := by have := hF.size; omega
      have nx7_rd2_own_p : _ ∨ ∀ k, blkOf _ k → ¬ ownS _ k := (Rd.lt rd2).imp_right fun h k hk hs => by have := h k hk; have := (Own.ge own_p hs).1; omega
      have nx7_h_b1_own_p : ¬ ownS _ b1 := fun h => by have := (Own.ge own_p h).1; have := lt_get h_b1; omega
      replace own_p := own_p.mono (B' := w.heap.size) hF.size
      replace rd2 := rd2.upd0 U7
      replace h_b1 := U7.get0 h_b1
      replace hF := hF.go0 U7
      refine opv_run (ext_t (by rfl)) ?_
      refine opv_run (ext_t (by rfl)) ?_
      refine opv_run (ldA (n := 2) (by kernel_rfl) h_b1 (by first | exact Nat.le_of_ble_eq_true rfl | (simp; done) | omega) (by rfl)) ?_
      refine callF_ex (c_ref14_New1 (r := r) (c := c) (by omega)) (fun v8 w8 D8 => ?_)
      obtain ⟨gx, rfl, own_x, U8⟩ := D8
      rw [show (Gs.cellsN r c).toNat = N by omega] at own_x
      have nx8_rd2_own_x : _ ∨ ∀ k, blkOf _ k → ¬ ownS _ k := (Rd.lt rd2).imp_right fun h k hk hs => by have := h k hk; have := (Own.ge own_x hs).1; omega
      have nx8_h_b1_own_x : ¬ ownS _ b1 := fun h => by have := (Own.ge own_x h).1; have := lt_get h_b1; omega
      have nx8_h_bp_own_x : ¬ ownS _ bp := fun h => by have := (Own.ge own_x h).1; have := lt_get h_bp; omega
      have nx8_own_p_own_x : ∀ k, ownS _ k → ¬ ownS _ k := fun k hk hs => by have := (Own.ge own_p hk).2; have := (Own.ge own_x hs).1; omega
      replace own_x := own_x.mono (B' := w.heap.size) hF.size
      replace rd2 := rd2.upd0 U8
      replace own_p := own_p.upd0 U8
      replace h_b1 := U8.get0 h_b1
      replace h_bp := U8.get0 h_bp
      replace hF := hF.go0 U8
      rw [show (Gs.cellsN r c).toNat = N by omega]
      refine opv_run (ext_t (by rfl)) ?_
      refine opv_run (ext_t (by rfl)) ?_
      refine alloc_intro (cs := #[.int .i64 0, .int .i64 0, .slice none 0 0, .int .i64 0]) (by kernel_rfl) (fun b9 w9 e9 h_b9 _ U9 => ?_)
      have na_rd2_b9 := rd2.apart e9
      have ne_b1_b9 : b1 ≠ b9 := by have := lt_get h_b1; omega
      have ne_bp_b9 : bp ≠ b9 := by have := lt_get h_bp; omega
      have na_own_p_b9 := own_p.apart e9
      have na_own_x_b9 := own_x.apart e9
      have ge_b9 : w.heap.size ≤ b9 := by have := hF.size; omega
      replace rd2 := rd2.upd0 U9
      replace own_p := own_p.upd0 U9
      replace own_x := own_x.upd0 U9
      replace h_b1 := U9.get0 h_b1
      replace h_bp := U9.get0 h_bp
      replace hF := hF.go0 U9
      clear e9
      refine store_intro (n := 4) (cs' := #[.int .i64 r, .int .i64 c, .slice (some ⟨gx, 0, none⟩) N N, .int .i64 0]) (by kernel_rfl) (by rfl) (by first | rfl | (simp [Value.cells, Value.oneCell', Gs.cv, Gs.ov]; done)) h_b9 (by first | exact Nat.le_of_ble_eq_true rfl | (simp; done) | omega) (by rfl) (fun w10 N10 _ U10 => ?_)
      replace rd2 := rd2.upd1 U10 na_rd2_b9
      replace own_p := own_p.upd1 U10 na_own_p_b9
      replace own_x := own_x.upd1 U10 na_own_x_b9
      replace h_b1 := U10.get1 h_b1 ne_b1_b9
      replace h_bp := U10.get1 h_bp ne_bp_b9
      replace h_b9 := N10
      replace hF := hF.go1 U10 ge_b9
      refine opv_F (neI _ _ _ _ _) (by decide) ?_
      refine condf ?_
      refine opv_F (neI _ _ _ _ _) (by decide) ?_
      refine condf ?_
      refine join_cut (fun g w' => ∃ (ps : List Gs.Cell) (cur : Int) (A1 : Option Addr) (c1 : Nat), (N = ps.length) ∧ (w'.heap[b9]? = some (.cells #[.int .i64 r, .int .i64 c, .slice A1 N c1, .int .i64 cur] 32 (0, 0))) ∧ (w'.heap[bp]? = some (.cells #[.int .i64 r, .int .i64 c, .slice (some ⟨gp, 0, none⟩) N N, .int .i64 cur] 66 (0, 0))) ∧ (Own w.heap.size w' 36 5 (.slice (some ⟨gp, 0, none⟩) N N) (rows Gs.cv ps)) ∧ (Rd w' A1 (rows Gs.cv ps)) ∧ (rows Gs.cv ps = [] ∨ ∀ k, blkOf A1 k → ¬ ownS (.slice (some ⟨gp, 0, none⟩) N N) k) ∧ (rows Gs.cv ps = [] ∨ ∀ k, blkOf A1 k → k ≠ bp) ∧ (rows Gs.cv ps = [] ∨ ∀ k, blkOf A1 k → k ≠ b9) ∧ (w'.heap[b1]? = some (.cells #[.int .i64 r, .int .i64 c] 23 (0, 0))) ∧ (Rd w' A2 (rows Gs.ov os)) ∧ (Upd no w w')) (fun J1 hJ1 => ?_) (fun gJ1 wJ1 hI => ?_)
      · refine opv_run (len_sl (by kernel_rfl) _ _ _) ?_
        refine loop_intro (fun g w' => ∃ (k : Nat) (ps : List Gs.Cell) (cur : Int) (A1 : Option Addr) (c1 : Nat), (g 50 = .int .i64 (k : Int)) ∧ (k ≤ os.length) ∧ (N = ps.length) ∧ (w'.heap[b9]? = some (.cells #[.int .i64 r, .int .i64 c, .slice A1 N c1, .int .i64 cur] 32 (0, 0))) ∧ (w'.heap[bp]? = some (.cells #[.int .i64 r, .int .i64 c, .slice (some ⟨gp, 0, none⟩) N N, .int .i64 cur] 66 (0, 0))) ∧ (Own w.heap.size w' 36 5 (.slice (some ⟨gp, 0, none⟩) N N) (rows Gs.cv ps)) ∧ (Rd w' A1 (rows Gs.cv ps)) ∧ (rows Gs.cv ps = [] ∨ ∀ k, blkOf A1 k → ¬ ownS (.slice (some ⟨gp, 0, none⟩) N N) k) ∧ (rows Gs.cv ps = [] ∨ ∀ k, blkOf A1 k → k ≠ bp) ∧ (rows Gs.cv ps = [] ∨ ∀ k, blkOf A1 k → k ≠ b9) ∧ (w'.heap[b1]? = some (.cells #[.int .i64 r, .int .i64 c] 23 (0, 0))) ∧ (Rd w' A2 (rows Gs.ov os)) ∧ (Upd no w w')) (fun g w' => os.length - (RowKit.intOf (g 50)).toNat) ?_ (fun g2 wl2 hI => ?_)
        · exact ⟨0, _, _, _, _, (by first | exact g50 | rfl), Nat.zero_le _, List.length_replicate.symm, h_b9, h_bp, own_p, own_x.rdS, (.inr fun k hk ho => by obtain ⟨a, ea, hk⟩ := hk; cases ea; exact nx8_own_p_own_x k ho (by cases hk; rfl)), (.inr fun k hk he => by obtain ⟨a, ea, hk⟩ := hk; cases ea; subst hk; subst he; exact nx8_h_bp_own_x rfl), (.inr fun k hk => by obtain ⟨a, ea, hk⟩ := hk; cases ea; subst hk; exact na_own_x_b9 _ rfl), h_b1, rd2, hF⟩
        · obtain ⟨k, ps, cur, A1, c1, g50, hk, hpl, h_b9, h_bp, own_p, rdx, hs1, hs2, hs3, h_b1, rd2, hF⟩ := hI
          try rw [g50]
          have hne : rows Gs.cv ps ≠ [] := fun he => by have := congrArg List.length he; rw [rows_len Gs.encC] at this; simp only [List.length_nil] at this; omega
          refine opv_dec (lss _ _ _ _) (fun h11 => ?_) (fun h11 => ?_)
          · refine condt ?_
            refine idx_rows Gs.encO (by kernel_rfl) (by kernel_rfl) rd2 (by first | rfl | assumption | omega) (by omega) (by omega) (fun x12 hx12 => ?_)
            try simp only [Int.toNat_natCast] at hx12
            refine alloc_intro (cs := #[.int .i64 0, .int .i64 0, .int .i64 0, .int .u8 0, .bool false, .bool false, .int .u8 0, .int .u8 0]) (by kernel_rfl) (fun b13 w13 e13 h_b13 _ U13 => ?_)
            have ne_b9_b13 : b9 ≠ b13 := by have := lt_get h_b9; omega
            have ne_bp_b13 : bp ≠ b13 := by have := lt_get h_bp; omega
            have na_own_p_b13 := own_p.apart e13
            have na_rdx_b13 := rdx.apart e13
            have ne_b1_b13 : b1 ≠ b13 := by have := lt_get h_b1; omega
            have na_rd2_b13 := rd2.apart e13
            have ge_b13 : w.heap.size ≤ b13 := by have := hF.size; omega
            replace own_p := own_p.upd0 U13
            replace rdx := rdx.upd0 U13
            replace rd2 := rd2.upd0 U13
            replace h_b9 := U13.get0 h_b9
            replace h_bp := U13.get0 h_bp
            replace h_b1 := U13.get0 h_b1
            replace hF := hF.go0 U13
            clear e13
            refine store_intro (n := 8) (cs' := (Gs.ov x12).toArray) (by kernel_rfl) (by rfl) (by first | rfl | (simp [Value.cells, Value.oneCell', Gs.cv, Gs.ov]; done)) h_b13 (by first | exact Nat.le_of_ble_eq_true rfl | (simp; done) | omega) (by rfl) (fun w14 N14 _ U14 => ?_)
            replace own_p := own_p.upd1 U14 na_own_p_b13
            replace rdx := rdx.upd1 U14 na_rdx_b13
            replace rd2 := rd2.upd1 U14 na_rd2_b13
            replace h_b9 := U14.get1 h_b9 ne_b9_b13
            replace h_bp := U14.get1 h_bp ne_bp_b13
            replace h_b1 := U14.get1 h_b1 ne_b1_b13
            replace h_b13 := N14
            replace hF := hF.go1 U14 ge_b13
            refine join_cut (fun g w' => ∃ (ps : List Gs.Cell) (cur : Int) (A1 : Option Addr) (c1 : Nat), (N = ps.length) ∧ (w'.heap[b9]? = some (.cells #[.int .i64 r, .int .i64 c, .slice A1 N c1, .int .i64 cur] 32 (0, 0))) ∧ (w'.heap[bp]? = some (.cells #[.int .i64 r, .int .i64 c, .slice (some ⟨gp, 0, none⟩) N N, .int .i64 cur] 66 (0, 0))) ∧ (Own w.heap.size w' 36 5 (.slice (some ⟨gp, 0, none⟩) N N) (rows Gs.cv ps)) ∧ (Rd w' A1 (rows Gs.cv ps)) ∧ (rows Gs.cv ps = [] ∨ ∀ k, blkOf A1 k → ¬ ownS (.slice (some ⟨gp, 0, none⟩) N N) k) ∧ (rows Gs.cv ps = [] ∨ ∀ k, blkOf A1 k → k ≠ bp) ∧ (rows Gs.cv ps = [] ∨ ∀ k, blkOf A1 k → k ≠ b9) ∧ (w'.heap[b1]? = some (.cells #[.int .i64 r, .int .i64 c] 23 (0, 0))) ∧ (Rd w' A2 (rows Gs.ov os)) ∧ (Upd no w w')) (fun J3 hJ3 => ?_) (fun gJ3 wJ3 hI => ?_)
            · refine opv_run (fieldAt_eq (off := 0) (by kernel_rfl)) ?_
              refine opv_run (ldC (by kernel_rfl) h_b13 (by rfl)) ?_
              refine join_cut (fun g w' => ∃ (q : Bool), (g 56 = .bool q) ∧ (w'.heap[b9]? = some (.cells #[.int .i64 r, .int .i64 c, .slice A1 N c1, .int .i64 cur] 32 (0, 0))) ∧ (w'.heap[bp]? = some (.cells #[.int .i64 r, .int .i64 c, .slice (some ⟨gp, 0, none⟩) N N, .int .i64 cur] 66 (0, 0))) ∧ (Own w.heap.size w' 36 5 (.slice (some ⟨gp, 0, none⟩) N N) (rows Gs.cv ps)) ∧ (Rd w' A1 (rows Gs.cv ps)) ∧ (w'.heap[b1]? = some (.cells #[.int .i64 r, .int .i64 c] 23 (0, 0))) ∧ (Rd w' A2 (rows Gs.ov os)) ∧ (w'.heap[b13]? = some (.cells (Gs.ov x12).toArray 38 (0, 0))) ∧ (Upd no w w')) (fun J4 hJ4 => ?_) (fun gJ4 wJ4 hI => ?_)
              · refine opv_dec (eqI _ _ _ _ _) (fun h15 => ?_) (fun h15 => ?_)
                · refine condt ?_
                  refine hJ4 _ _ ?_
                  exact ⟨_, (by first | exact g56 | rfl), h_b9, h_bp, own_p, rdx, h_b1, rd2, h_b13, hF⟩
                · refine condf ?_
                  refine opv_dec (eqI _ _ _ _ _) (fun h16 => ?_) (fun h16 => ?_)
                  · refine hJ4 _ _ ?_
                    exact ⟨_, (by first | exact g56 | rfl), h_b9, h_bp, own_p, rdx, h_b1, rd2, h_b13, hF⟩
                  · refine hJ4 _ _ ?_
                    exact ⟨_, (by first | exact g56 | rfl), h_b9, h_bp, own_p, rdx, h_b1, rd2, h_b13, hF⟩
              · obtain ⟨q, g56, h_b9, h_bp, own_p, rdx, h_b1, rd2, h_b13, hF⟩ := hI
                try rw [g56]
                refine cond_intro (fun h17 => ?_) (fun h17 => ?_)
                · try simp only [decide_eq_true_eq, decide_eq_false_iff_not] at h17
                  refine drawn_S (S := ownS (.slice (some ⟨gp, 0, none⟩) N N)) (fun w18 U18 => ?_)
                  replace own_p := own_p.upd0 U18
                  replace rdx := rdx.upd0 U18
                  replace rd2 := rd2.upd0 U18
                  replace h_b9 := U18.get0 h_b9
                  replace h_bp := U18.get0 h_bp
                  replace h_b1 := U18.get0 h_b1
                  replace h_b13 := U18.get0 h_b13
                  replace hF := hF.go0 U18
                  refine qop_run (fun w' hw' => (fieldAt_eq (off := 1) (by kernel_rfl))) ?_
                  refine qop_run (fun w' hw' => by have h_b13 := hw'.get h_b13 (fun h => by first | exact Own.ne_blk own_p h_b13 (by decide) _ h rfl | (have := Own.ge own_p h; omega)); exact (ldC (by kernel_rfl) h_b13 (by rfl))) ?_
                  refine qop_run (fun w' hw' => (fieldAt_eq (off := 3) (by kernel_rfl))) ?_
                  refine qop_run (fun w' hw' => by have h_b13 := hw'.get h_b13 (fun h => by first | exact Own.ne_blk own_p h_b13 (by decide) _ h rfl | (have := Own.ge own_p h; omega)); exact (ldA (n := 5) (cs' := (Gs.cv x12.c).toArray) (by kernel_rfl) h_b13 (by first | exact Nat.le_of_ble_eq_true rfl | (simp; done) | omega) (by rfl))) ?_
                  refine qop_run (fun w' hw' => by have h_b9 := hw'.get h_b9 (fun h => by first | exact Own.ne_blk own_p h_b9 (by decide) _ h rfl | (have := Own.ge own_p h; omega)); exact (ldA (n := 4) (cs' := #[.int .i64 r, .int .i64 c, .slice A1 N c1, .int .i64 cur]) (by kernel_rfl) h_b9 (by first | exact Nat.le_of_ble_eq_true rfl | (simp; done) | omega) (by rfl))) ?_
                  refine qop_run (fun w' hw' => (fieldAt_eq (off := 1) (by kernel_rfl))) ?_
                  refine qop_run (fun w' hw' => by have h_b13 := hw'.get h_b13 (fun h => by first | exact Own.ne_blk own_p h_b13 (by decide) _ h rfl | (have := Own.ge own_p h; omega)); exact (ldC (by kernel_rfl) h_b13 (by rfl))) ?_
                  refine ext_intro (fun w19 U19 => ?_)
                  replace own_p := own_p.upd0 U19
                  replace rdx := rdx.upd0 U19
                  replace rd2 := rd2.upd0 U19
                  replace h_b9 := U19.get0 h_b9
                  replace h_bp := U19.get0 h_bp
                  replace h_b1 := U19.get0 h_b1
                  replace h_b13 := U19.get0 h_b13
                  replace hF := hF.go0 U19
                  refine lop_i ?_
                  refine callF_ex (c_Plane_Set h_bp own_p hpl (i := x12.at') (x := x12.c)) (fun v20 w20 D20 => ?_)
                  obtain ⟨rfl, N20, U20⟩ := D20
                  have own_p_o := own_p
                  replace h_b9 := U20.get h_b9 (fun h => na_own_p_b9 _ h rfl)
                  replace h_bp := U20.get h_bp (fun h => by first | (have := Own.ge own_p_o h; omega) | exact Own.ne_blk own_p_o h_bp (by decide) _ h rfl | exact Own.not_loop own_p_o h_bp (by assumption) _ h rfl | exact Own.not_def own_p_o h_bp _ h rfl | simp_all)
                  replace own_p := N20
                  replace rdx := rdx.updS U20 hs1
                  replace h_b1 := U20.get h_b1 nx7_h_b1_own_p
                  replace rd2 := rd2.updS U20 nx7_rd2_own_p
                  replace h_b13 := U20.get h_b13 (fun h => na_own_p_b13 _ h rfl)
                  replace hF := hF.go U20 (fun i h hs => by first | exact hs | exact .inl hs | exact .inr hs | (have := (Own.ge own_p_o hs).1; omega))
                  clear own_p_o
                  refine ⟨U20, ?_⟩
                  refine qop_call (fun w' hw' => c_greenscreenref14_Has (i := x12.at') (n := N)) ?_
                  refine qop_F (fun w' hw' => (neB _ _ (by kernel_rfl) _ _)) (fun hne => hne (by rw [hpl])) ?_
                  refine ext_intro (fun w22 U22 => ?_)
                  replace own_p := own_p.upd0 U22
                  replace rdx := rdx.upd0 U22
                  replace rd2 := rd2.upd0 U22
                  replace h_b9 := U22.get0 h_b9
                  replace h_bp := U22.get0 h_bp
                  replace h_b1 := U22.get0 h_b1
                  replace h_b13 := U22.get0 h_b13
                  replace hF := hF.go0 U22
                  refine condf ?_
                  have hq0 : 0 = 0 := rfl
                  refine opv_run (ldA (n := 4) (cs' := #[.int .i64 r, .int .i64 c, .slice A1 N c1, .int .i64 cur]) (by kernel_rfl) h_b9 (by first | exact Nat.le_of_ble_eq_true rfl | (simp; done) | omega) (by rfl)) ?_
                  refine opv_run (fieldAt_eq (off := 1) (by kernel_rfl)) ?_
                  refine opv_run (ldC (by kernel_rfl) h_b13 (by rfl)) ?_
                  refine opv_run (fieldAt_eq (off := 3) (by kernel_rfl)) ?_
                  refine opv_run (ldA (n := 5) (cs' := (Gs.cv x12.c).toArray) (by kernel_rfl) h_b13 (by first | exact Nat.le_of_ble_eq_true rfl | (simp; done) | omega) (by rfl)) ?_
                  have q1_75 := Own.lt own_p
                  have q2_75 := lt_get h_bp
                  have q3_75 := lt_get h_b9
                  refine callF_ex (c_greenscreenref14_Set rdx hpl (i := x12.at') (x := x12.c) (by omega)) (fun v23 w23 D23 => ?_)
                  obtain ⟨A75, c75, rfl, rd75, hA75, U23⟩ := D23
                  replace own_p := own_p.upd0 U23
                  replace rdx := rdx.upd0 U23
                  replace rd2 := rd2.upd0 U23
                  replace h_b9 := U23.get0 h_b9
                  replace h_bp := U23.get0 h_bp
                  replace h_b1 := U23.get0 h_b1
                  replace h_b13 := U23.get0 h_b13
                  replace hF := hF.go0 U23
                  have hs1_75 : rows Gs.cv (Gs.setC ps x12.at' x12.c) = [] ∨ ∀ k, blkOf A75 k → ¬ ownS (.slice (some ⟨gp, 0, none⟩) N N) k := .inr fun k hk => (hA75 k hk).elim ((hs1.resolve_left hne) k) (fun h => fun ho => by have := q1_75 k ho; omega)
                  have hs2_75 : rows Gs.cv (Gs.setC ps x12.at' x12.c) = [] ∨ ∀ k, blkOf A75 k → k ≠ bp := .inr fun k hk => (hA75 k hk).elim ((hs2.resolve_left hne) k) (fun h => by omega)
                  have hs3_75 : rows Gs.cv (Gs.setC ps x12.at' x12.c) = [] ∨ ∀ k, blkOf A75 k → k ≠ b9 := .inr fun k hk => (hA75 k hk).elim ((hs3.resolve_left hne) k) (fun h => by omega)
                  refine store_intro (n := 4) (cs' := #[.int .i64 r, .int .i64 c, .slice A75 N c75, .int .i64 cur]) (by kernel_rfl) (by rfl) (by first | rfl | (simp [Value.cells, Value.oneCell', Gs.cv, Gs.ov]; done)) h_b9 (by first | exact Nat.le_of_ble_eq_true rfl | (simp; done) | omega) (by rfl) (fun w24 N24 _ U24 => ?_)
                  replace own_p := own_p.upd1 U24 na_own_p_b9
                  replace rdx := rdx.upd1 U24 (by assumption)
                  replace rd2 := rd2.upd1 U24 na_rd2_b9
                  replace rd75 := rd75.upd1 U24 (by assumption)
                  replace h_b9 := N24
                  replace h_bp := U24.get1 h_bp ne_bp_b9
                  replace h_b1 := U24.get1 h_b1 ne_b1_b9
                  replace h_b13 := U24.get1 h_b13 (Ne.symm ne_b9_b13)
                  replace hF := hF.go1 U24 ge_b9
                  refine hJ3 _ _ ?_
                  exact ⟨_, _, _, _, (by first | assumption | (rw [Gs.setC_len]; exact hpl) | (rw [Gs.fill_len]; exact hpl) | simp), h_b9, (by first | exact h_bp | (rw [if_pos (by omega)] at h_bp; exact h_bp) | (rw [if_neg (by omega)] at h_bp; exact h_bp)), own_p, (by first | exact rd75 | exact rd112 | exact own125.rdS | exact rdx), (by first | exact hs1_75 | exact hs1_112 | exact hs1_125 | exact hs1), (by first | exact hs2_75 | exact hs2_112 | exact hs2_125 | exact hs2), (by first | exact hs3_75 | exact hs3_112 | exact hs3_125 | exact hs3), h_b1, rd2, hF⟩
                · try simp only [decide_eq_true_eq, decide_eq_false_iff_not] at h17
                  refine opv_dec (eqI _ _ _ _ _) (fun h25 => ?_) (fun h25 => ?_)
                  · refine condt ?_
                    refine drawn_S (S := (· = bp)) (fun w26 U26 => ?_)
                    replace own_p := own_p.upd0 U26
                    replace rdx := rdx.upd0 U26
                    replace rd2 := rd2.upd0 U26
                    replace h_b9 := U26.get0 h_b9
                    replace h_bp := U26.get0 h_bp
                    replace h_b1 := U26.get0 h_b1
                    replace h_b13 := U26.get0 h_b13
                    replace hF := hF.go0 U26
                    refine qop_run (fun w' hw' => (fieldAt_eq (off := 1) (by kernel_rfl))) ?_
                    refine qop_run (fun w' hw' => by have h_b13 := hw'.get1 h_b13 (Ne.symm ne_bp_b13); exact (ldC (by kernel_rfl) h_b13 (by rfl))) ?_
                    refine qop_run (fun w' hw' => by have h_b9 := hw'.get1 h_b9 (Ne.symm ne_bp_b9); exact (ldA (n := 4) (cs' := #[.int .i64 r, .int .i64 c, .slice A1 N c1, .int .i64 cur]) (by kernel_rfl) h_b9 (by first | exact Nat.le_of_ble_eq_true rfl | (simp; done) | omega) (by rfl))) ?_
                    refine qop_run (fun w' hw' => (fieldAt_eq (off := 1) (by kernel_rfl))) ?_
                    refine qop_run (fun w' hw' => by have h_b13 := hw'.get1 h_b13 (Ne.symm ne_bp_b13); exact (ldC (by kernel_rfl) h_b13 (by rfl))) ?_
                    refine ext_intro (fun w27 U27 => ?_)
                    replace own_p := own_p.upd0 U27
                    replace rdx := rdx.upd0 U27
                    replace rd2 := rd2.upd0 U27
                    replace h_b9 := U27.get0 h_b9
                    replace h_bp := U27.get0 h_bp
                    replace h_b1 := U27.get0 h_b1
                    replace h_b13 := U27.get0 h_b13
                    replace hF := hF.go0 U27
                    refine lop_i ?_
                    refine callF_ex (c_Plane_Point h_bp own_p hpl (i := x12.at')) (fun v28 w28 D28 => ?_)
                    obtain ⟨rfl, N28, U28⟩ := D28
                    replace own_p := own_p.upd1 U28 (by first | assumption | exact Own.ne_blk own_p (by assumption) (by decide) | exact Own.not_loop own_p (by assumption) (by assumption) | exact Own.not_def own_p (by assumption))
                    replace rdx := rdx.upd1 U28 hs2
                    replace rd2 := rd2.upd1 U28 na_rd2_bp
                    replace h_b9 := U28.get1 h_b9 (Ne.symm ne_bp_b9)
                    replace h_bp := N28
                    replace h_b1 := U28.get1 h_b1 ne_b1_bp
                    replace h_b13 := U28.get1 h_b13 (Ne.symm ne_bp_b13)
                    replace hF := hF.go1 U28 ge_bp
                    refine ⟨U28, ?_⟩
                    refine qop_call (fun w' hw' => c_greenscreenref14_Has (i := x12.at') (n := N)) ?_
                    refine qop_F (fun w' hw' => (neB _ _ (by kernel_rfl) _ _)) (fun hne => hne (by rw [hpl])) ?_
                    refine ext_intro (fun w30 U30 => ?_)
                    replace own_p := own_p.upd0 U30
                    replace rdx := rdx.upd0 U30
                    replace rd2 := rd2.upd0 U30
                    replace h_b9 := U30.get0 h_b9
                    replace h_bp := U30.get0 h_bp
                    replace h_b1 := U30.get0 h_b1
                    replace h_b13 := U30.get0 h_b13
                    replace hF := hF.go0 U30
                    refine condf ?_
                    refine opv_run (ldA (n := 4) (cs' := #[.int .i64 r, .int .i64 c, .slice A1 N c1, .int .i64 cur]) (by kernel_rfl) h_b9 (by first | exact Nat.le_of_ble_eq_true rfl | (simp; done) | omega) (by rfl)) ?_
                    refine opv_run (fieldAt_eq (off := 1) (by kernel_rfl)) ?_
                    refine opv_run (ldC (by kernel_rfl) h_b13 (by rfl)) ?_
                    refine callF_bool (c_greenscreenref14_Has (i := x12.at') (n := N)) (fun w31 U31 h31 => ?_) (fun w31 U31 h31 => ?_)
                    · replace own_p := own_p.upd0 U31
                      replace rdx := rdx.upd0 U31
                      replace rd2 := rd2.upd0 U31
                      replace h_b9 := U31.get0 h_b9
                      replace h_bp := U31.get0 h_bp
                      replace h_b1 := U31.get0 h_b1
                      replace h_b13 := U31.get0 h_b13
                      replace hF := hF.go0 U31
                      try simp only [decide_eq_true_eq, decide_eq_false_iff_not] at h31
                      refine condt ?_
                      refine opv_run (fieldAt_eq (off := 1) (by kernel_rfl)) ?_
                      refine opv_run (ldC (by kernel_rfl) h_b13 (by rfl)) ?_
                      refine opv_run (fieldAt_eq (off := 3) (by kernel_rfl)) ?_
                      refine store1_intro (by kernel_rfl) rfl rfl h_b9 (by first | (simp; done) | omega | (simp [vals_length, *]; done) | (simp [vals_length, *]; omega)) (by first | (simp [vals_set]; rfl) | rfl) (fun w32 N32 _ U32 => ?_)
                      replace own_p := own_p.upd1 U32 na_own_p_b9
                      replace rdx := rdx.upd1 U32 (by assumption)
                      replace rd2 := rd2.upd1 U32 na_rd2_b9
                      replace h_b9 := N32
                      replace h_bp := U32.get1 h_bp ne_bp_b9
                      replace h_b1 := U32.get1 h_b1 ne_b1_b9
                      replace h_b13 := U32.get1 h_b13 (Ne.symm ne_b9_b13)
                      replace hF := hF.go1 U32 ge_b9
                      refine hJ3 _ _ ?_
                      exact ⟨_, _, _, _, (by first | assumption | (rw [Gs.setC_len]; exact hpl) | (rw [Gs.fill_len]; exact hpl) | simp), h_b9, (by first | exact h_bp | (rw [if_pos (by omega)] at h_bp; exact h_bp) | (rw [if_neg (by omega)] at h_bp; exact h_bp)), own_p, (by first | exact rd75 | exact rd112 | exact own125.rdS | exact rdx), (by first | exact hs1_75 | exact hs1_112 | exact hs1_125 | exact hs1), (by first | exact hs2_75 | exact hs2_112 | exact hs2_125 | exact hs2), (by first | exact hs3_75 | exact hs3_112 | exact hs3_125 | exact hs3), h_b1, rd2, hF⟩
                    · replace own_p := own_p.upd0 U31
                      replace rdx := rdx.upd0 U31
                      replace rd2 := rd2.upd0 U31
                      replace h_b9 := U31.get0 h_b9
                      replace h_bp := U31.get0 h_bp
                      replace h_b1 := U31.get0 h_b1
                      replace h_b13 := U31.get0 h_b13
                      replace hF := hF.go0 U31
                      try simp only [decide_eq_true_eq, decide_eq_false_iff_not] at h31
                      refine condf ?_
                      refine hJ3 _ _ ?_
                      exact ⟨_, _, _, _, (by first | assumption | (rw [Gs.setC_len]; exact hpl) | (rw [Gs.fill_len]; exact hpl) | simp), h_b9, (by first | exact h_bp | (rw [if_pos (by omega)] at h_bp; exact h_bp) | (rw [if_neg (by omega)] at h_bp; exact h_bp)), own_p, (by first | exact rd75 | exact rd112 | exact own125.rdS | exact rdx), (by first | exact hs1_75 | exact hs1_112 | exact hs1_125 | exact hs1), (by first | exact hs2_75 | exact hs2_112 | exact hs2_125 | exact hs2), (by first | exact hs3_75 | exact hs3_112 | exact hs3_125 | exact hs3), h_b1, rd2, hF⟩
                  · refine condf ?_
                    refine opv_dec (eqI _ _ _ _ _) (fun h33 => ?_) (fun h33 => ?_)
                    · refine condt ?_
                      refine opv_run (fieldAt_eq (off := 1) (by kernel_rfl)) ?_
                      refine opv_run (ldC (by kernel_rfl) h_b13 (by rfl)) ?_
                      refine opv_run (fieldAt_eq (off := 2) (by kernel_rfl)) ?_
                      refine opv_run (ldC (by kernel_rfl) h_b13 (by rfl)) ?_
                      refine opv_run (fieldAt_eq (off := 3) (by kernel_rfl)) ?_
                      refine opv_run (ldA (n := 5) (cs' := (Gs.cv x12.c).toArray) (by kernel_rfl) h_b13 (by first | exact Nat.le_of_ble_eq_true rfl | (simp; done) | omega) (by rfl)) ?_
                      refine callF_ex (c_Plane_Fill h_bp own_p hpl (i := x12.at') (j := x12.to) (x := x12.c) hN) (fun v34 w34 D34 => ?_)
                      obtain ⟨rfl, N34, U34⟩ := D34
                      have own_p_o := own_p
                      replace h_b9 := U34.get h_b9 (fun h => na_own_p_b9 _ h rfl)
                      replace h_bp := U34.get h_bp (fun h => by first | (have := Own.ge own_p_o h; omega) | exact Own.ne_blk own_p_o h_bp (by decide) _ h rfl | exact Own.not_loop own_p_o h_bp (by assumption) _ h rfl | exact Own.not_def own_p_o h_bp _ h rfl | simp_all)
                      replace own_p := N34
                      replace rdx := rdx.updS U34 hs1
                      replace h_b1 := U34.get h_b1 nx7_h_b1_own_p
                      replace rd2 := rd2.updS U34 nx7_rd2_own_p
                      replace h_b13 := U34.get h_b13 (fun h => na_own_p_b13 _ h rfl)
                      replace hF := hF.go U34 (fun i h hs => by first | exact hs | exact .inl hs | exact .inr hs | (have := (Own.ge own_p_o hs).1; omega))
                      clear own_p_o
                      refine opv_run (ldA (n := 4) (cs' := #[.int .i64 r, .int .i64 c, .slice A1 N c1, .int .i64 cur]) (by kernel_rfl) h_b9 (by first | exact Nat.le_of_ble_eq_true rfl | (simp; done) | omega) (by rfl)) ?_
                      refine opv_run (fieldAt_eq (off := 1) (by kernel_rfl)) ?_
                      refine opv_run (ldC (by kernel_rfl) h_b13 (by rfl)) ?_
                      refine opv_run (fieldAt_eq (off := 2) (by kernel_rfl)) ?_
                      refine opv_run (ldC (by kernel_rfl) h_b13 (by rfl)) ?_
                      refine opv_run (fieldAt_eq (off := 3) (by kernel_rfl)) ?_
                      refine opv_run (ldA (n := 5) (cs' := (Gs.cv x12.c).toArray) (by kernel_rfl) h_b13 (by first | exact Nat.le_of_ble_eq_true rfl | (simp; done) | omega) (by rfl)) ?_
                      have q1_112 := Own.lt own_p
                      have q2_112 := lt_get h_bp
                      have q3_112 := lt_get h_b9
                      refine callF_ex (c_greenscreenref14_Fill rdx hpl (i := x12.at') (j := x12.to) (x := x12.c) (by omega) hN) (fun v35 w35 D35 => ?_)
                      obtain ⟨A112, c112, rfl, rd112, hA112, U35⟩ := D35
                      replace own_p := own_p.upd0 U35
                      replace rdx := rdx.upd0 U35
                      replace rd2 := rd2.upd0 U35
                      replace h_b9 := U35.get0 h_b9
                      replace h_bp := U35.get0 h_bp
                      replace h_b1 := U35.get0 h_b1
                      replace h_b13 := U35.get0 h_b13
                      replace hF := hF.go0 U35
                      have hs1_112 : rows Gs.cv (Gs.fillC ps (Gs.betw (Gs.cellsN r c) x12.at' x12.to) x12.c) = [] ∨ ∀ k, blkOf A112 k → ¬ ownS (.slice (some ⟨gp, 0, none⟩) N N) k := .inr fun k hk => (have h := hA112 k hk; fun ho => by have := q1_112 k ho; omega)
                      have hs2_112 : rows Gs.cv (Gs.fillC ps (Gs.betw (Gs.cellsN r c) x12.at' x12.to) x12.c) = [] ∨ ∀ k, blkOf A112 k → k ≠ bp := .inr fun k hk => (have h := hA112 k hk; by omega)
                      have hs3_112 : rows Gs.cv (Gs.fillC ps (Gs.betw (Gs.cellsN r c) x12.at' x12.to) x12.c) = [] ∨ ∀ k, blkOf A112 k → k ≠ b9 := .inr fun k hk => (have h := hA112 k hk; by omega)
                      refine opv_run (ext_t (by rfl)) ?_
                      refine opv_run (ext_t (by rfl)) ?_
                      refine alloc_intro (cs := #[.int .i64 0, .int .i64 0, .slice none 0 0, .int .i64 0]) (by kernel_rfl) (fun b36 w36 e36 h_b36 _ U36 => ?_)
                      have ne_b9_b36 : b9 ≠ b36 := by have := lt_get h_b9; omega
                      have ne_bp_b36 : bp ≠ b36 := by have := lt_get h_bp; omega
                      have na_own_p_b36 := own_p.apart e36
                      have na_rdx_b36 := rdx.apart e36
                      have ne_b1_b36 : b1 ≠ b36 := by have := lt_get h_b1; omega
                      have na_rd2_b36 := rd2.apart e36
                      have ne_b13_b36 : b13 ≠ b36 := by have := lt_get h_b13; omega
                      have na_rd112_b36 := rd112.apart e36
                      have ge_b36 : w.heap.size ≤ b36 := by have := hF.size; omega
                      replace own_p := own_p.upd0 U36
                      replace rdx := rdx.upd0 U36
                      replace rd2 := rd2.upd0 U36
                      replace rd112 := rd112.upd0 U36
                      replace h_b9 := U36.get0 h_b9
                      replace h_bp := U36.get0 h_bp
                      replace h_b1 := U36.get0 h_b1
                      replace h_b13 := U36.get0 h_b13
                      replace hF := hF.go0 U36
                      clear e36
                      refine store_intro (n := 4) (cs' := #[.int .i64 r, .int .i64 c, .slice A112 N c112, .int .i64 cur]) (by kernel_rfl) (by rfl) (by first | rfl | (simp [Value.cells, Value.oneCell', Gs.cv, Gs.ov]; done)) h_b36 (by first | exact Nat.le_of_ble_eq_true rfl | (simp; done) | omega) (by rfl) (fun w37 N37 _ U37 => ?_)
                      replace own_p := own_p.upd1 U37 na_own_p_b36
                      replace rdx := rdx.upd1 U37 na_rdx_b36
                      replace rd2 := rd2.upd1 U37 na_rd2_b36
                      replace rd112 := rd112.upd1 U37 na_rd112_b36
                      replace h_b9 := U37.get1 h_b9 ne_b9_b36
                      replace h_bp := U37.get1 h_bp ne_bp_b36
                      replace h_b1 := U37.get1 h_b1 ne_b1_b36
                      replace h_b13 := U37.get1 h_b13 ne_b13_b36
                      replace h_b36 := N37
                      replace hF := hF.go1 U37 ge_b36
                      refine opv_run (ldA (n := 4) (cs' := #[.int .i64 r, .int .i64 c, .slice A112 N c112, .int .i64 cur]) (by kernel_rfl) h_b36 (by first | exact Nat.le_of_ble_eq_true rfl | (simp; done) | omega) (by rfl)) ?_
                      refine store_intro (n := 4) (cs' := #[.int .i64 r, .int .i64 c, .slice A112 N c112, .int .i64 cur]) (by kernel_rfl) (by rfl) (by first | rfl | (simp [Value.cells, Value.oneCell', Gs.cv, Gs.ov]; done)) h_b9 (by first | exact Nat.le_of_ble_eq_true rfl | (simp; done) | omega) (by rfl) (fun w38 N38 _ U38 => ?_)
                      replace own_p := own_p.upd1 U38 na_own_p_b9
                      replace rdx := rdx.upd1 U38 (by assumption)
                      replace rd2 := rd2.upd1 U38 na_rd2_b9
                      replace rd112 := rd112.upd1 U38 (by assumption)
                      replace h_b9 := N38
                      replace h_bp := U38.get1 h_bp ne_bp_b9
                      replace h_b1 := U38.get1 h_b1 ne_b1_b9
                      replace h_b13 := U38.get1 h_b13 (Ne.symm ne_b9_b13)
                      replace h_b36 := U38.get1 h_b36 (Ne.symm ne_b9_b36)
                      replace hF := hF.go1 U38 ge_b9
                      refine opv_F (neI _ _ _ _ _) (fun hne => hne rfl) ?_
                      refine condf ?_
                      refine hJ3 _ _ ?_
                      exact ⟨_, _, _, _, (by first | assumption | (rw [Gs.setC_len]; exact hpl) | (rw [Gs.fill_len]; exact hpl) | simp), h_b9, (by first | exact h_bp | (rw [if_pos (by omega)] at h_bp; exact h_bp) | (rw [if_neg (by omega)] at h_bp; exact h_bp)), own_p, (by first | exact rd75 | exact rd112 | exact own125.rdS | exact rdx), (by first | exact hs1_75 | exact hs1_112 | exact hs1_125 | exact hs1), (by first | exact hs2_75 | exact hs2_112 | exact hs2_125 | exact hs2), (by first | exact hs3_75 | exact hs3_112 | exact hs3_125 | exact hs3), h_b1, rd2, hF⟩
                    · refine condf ?_
                      refine opv_dec (eqI _ _ _ _ _) (fun h39 => ?_) (fun h39 => ?_)
                      · refine condt ?_
                        refine callF_ex (c_Plane_Clear h_bp own_p hpl) (fun v40 w40 D40 => ?_)
                        obtain ⟨M40, N40, U40⟩ := D40
                        have own_p_o := own_p
                        replace own_p := N40
                        replace rdx := rdx.updS U40 (hs1.elim .inl fun h1 => hs2.imp_right fun h2 k hk hs => Or.elim (show ownS _ _ ∨ _ = _ from hs) (h1 k hk) (fun hb => h2 k hk hb))
                        replace rd2 := rd2.updS U40 (nx7_rd2_own_p.elim .inl fun h1 => na_rd2_bp.imp_right fun h2 k hk hs => Or.elim (show ownS _ _ ∨ _ = _ from hs) (h1 k hk) (fun hb => h2 k hk hb))
                        replace h_b9 := U40.get h_b9 (fun hs => Or.elim (show ownS _ _ ∨ _ = _ from hs) (fun h => by first | exact Own.ne_blk own_p_o h_b9 (by decide) _ h rfl | (have := Own.ge own_p_o h; omega)) (fun hb => absurd hb (Ne.symm ne_bp_b9)))
                        replace h_bp := M40
                        replace h_b1 := U40.get h_b1 (fun hs => Or.elim (show ownS _ _ ∨ _ = _ from hs) nx7_h_b1_own_p (fun hb => absurd hb ne_b1_bp))
                        replace h_b13 := U40.get h_b13 (fun hs => Or.elim (show ownS _ _ ∨ _ = _ from hs) (fun h => by first | exact Own.ne_blk own_p_o h_b13 (by decide) _ h rfl | (have := Own.ge own_p_o h; omega)) (fun hb => absurd hb (Ne.symm ne_bp_b13)))
                        replace hF := hF.go U40 (fun i h hs => Or.elim (show ownS _ _ ∨ _ = _ from hs) (fun hs => by first | exact hs | exact .inl hs | exact .inr hs | (have := (Own.ge own_p_o hs).1; omega)) (fun hb => by first | (subst hb; omega) | exact .inr hb))
                        clear own_p_o
                        rw [← hpl] at own_p
                        refine opv_run (ldA (n := 2) (by kernel_rfl) h_b1 (by first | exact Nat.le_of_ble_eq_true rfl | (simp; done) | omega) (by rfl)) ?_
                        have q1_125 := Own.lt own_p
                        have q2_125 := lt_get h_bp
                        have q3_125 := lt_get h_b9
                        refine callF_ex (c_ref14_New1 (r := r) (c := c) (by omega)) (fun v41 w41 D41 => ?_)
                        obtain ⟨gy, rfl, own125, U41⟩ := D41
                        rw [show (Gs.cellsN r c).toNat = N by omega] at own125
                        have nx41_h_b9_own125 : ¬ ownS _ b9 := fun h => by have := (Own.ge own125 h).1; have := lt_get h_b9; omega
                        have nx41_h_bp_own125 : ¬ ownS _ bp := fun h => by have := (Own.ge own125 h).1; have := lt_get h_bp; omega
                        have nx41_own_p_own125 : ∀ k, ownS _ k → ¬ ownS _ k := fun k hk hs => by have := (Own.ge own_p hk).2; have := (Own.ge own125 hs).1; omega
                        have nx41_rdx_own125 : _ ∨ ∀ k, blkOf _ k → ¬ ownS _ k := (Rd.lt rdx).imp_right fun h k hk hs => by have := h k hk; have := (Own.ge own125 hs).1; omega
                        have nx41_h_b1_own125 : ¬ ownS _ b1 := fun h => by have := (Own.ge own125 h).1; have := lt_get h_b1; omega
                        have nx41_rd2_own125 : _ ∨ ∀ k, blkOf _ k → ¬ ownS _ k := (Rd.lt rd2).imp_right fun h k hk hs => by have := h k hk; have := (Own.ge own125 hs).1; omega
                        have nx41_h_b13_own125 : ¬ ownS _ b13 := fun h => by have := (Own.ge own125 h).1; have := lt_get h_b13; omega
                        replace own125 := own125.mono (B' := w.heap.size) hF.size
                        replace own_p := own_p.upd0 U41
                        replace rdx := rdx.upd0 U41
                        replace rd2 := rd2.upd0 U41
                        replace h_b9 := U41.get0 h_b9
                        replace h_bp := U41.get0 h_bp
                        replace h_b1 := U41.get0 h_b1
                        replace h_b13 := U41.get0 h_b13
                        replace hF := hF.go0 U41
                        rw [show (Gs.cellsN r c).toNat = N by omega]
                        have hs1_125 : rows Gs.cv (List.replicate N Gs.zc) = [] ∨ ∀ k, blkOf (some ⟨gy, 0, none⟩) k → ¬ ownS (.slice (some ⟨gp, 0, none⟩) N N) k := .inr fun k hk ho => by obtain ⟨a, ea, hk⟩ := hk; cases ea; subst hk; exact nx41_own_p_own125 _ ho rfl
                        have hs2_125 : rows Gs.cv (List.replicate N Gs.zc) = [] ∨ ∀ k, blkOf (some ⟨gy, 0, none⟩) k → k ≠ bp := .inr fun k hk he => by obtain ⟨a, ea, hk⟩ := hk; cases ea; subst hk; subst he; exact nx41_h_bp_own125 rfl
                        have hs3_125 : rows Gs.cv (List.replicate N Gs.zc) = [] ∨ ∀ k, blkOf (some ⟨gy, 0, none⟩) k → k ≠ b9 := .inr fun k hk he => by obtain ⟨a, ea, hk⟩ := hk; cases ea; subst hk; subst he; exact nx41_h_b9_own125 rfl
                        refine opv_run (ext_t (by rfl)) ?_
                        refine opv_run (ext_t (by rfl)) ?_
                        refine store_intro (n := 4) (cs' := #[.int .i64 r, .int .i64 c, .slice (some ⟨gy, 0, none⟩) N N, .int .i64 0]) (by kernel_rfl) (by rfl) (by first | rfl | (simp [Value.cells, Value.oneCell', Gs.cv, Gs.ov]; done)) h_b9 (by first | exact Nat.le_of_ble_eq_true rfl | (simp; done) | omega) (by rfl) (fun w42 N42 _ U42 => ?_)
                        replace own_p := own_p.upd1 U42 na_own_p_b9
                        replace rdx := rdx.upd1 U42 (by assumption)
                        replace rd2 := rd2.upd1 U42 na_rd2_b9
                        replace own125 := own125.upd1 U42 (by first | assumption | exact Own.ne_blk own125 (by assumption) (by decide) | exact Own.not_loop own125 (by assumption) (by assumption) | exact Own.not_def own125 (by assumption))
                        replace h_b9 := N42
                        replace h_bp := U42.get1 h_bp ne_bp_b9
                        replace h_b1 := U42.get1 h_b1 ne_b1_b9
                        replace h_b13 := U42.get1 h_b13 (Ne.symm ne_b9_b13)
                        replace hF := hF.go1 U42 ge_b9
                        refine hJ3 _ _ ?_
                        exact ⟨_, _, _, _, (by first | assumption | (rw [Gs.setC_len]; exact hpl) | (rw [Gs.fill_len]; exact hpl) | simp), h_b9, (by first | exact h_bp | (rw [if_pos (by omega)] at h_bp; exact h_bp) | (rw [if_neg (by omega)] at h_bp; exact h_bp)), own_p, (by first | exact rd75 | exact rd112 | exact own125.rdS | exact rdx), (by first | exact hs1_75 | exact hs1_112 | exact hs1_125 | exact hs1), (by first | exact hs2_75 | exact hs2_112 | exact hs2_125 | exact hs2), (by first | exact hs3_75 | exact hs3_112 | exact hs3_125 | exact hs3), h_b1, rd2, hF⟩
                      · refine condf ?_
                        refine hJ3 _ _ ?_
                        exact ⟨_, _, _, _, (by first | assumption | (rw [Gs.setC_len]; exact hpl) | (rw [Gs.fill_len]; exact hpl) | simp), h_b9, (by first | exact h_bp | (rw [if_pos (by omega)] at h_bp; exact h_bp) | (rw [if_neg (by omega)] at h_bp; exact h_bp)), own_p, (by first | exact rd75 | exact rd112 | exact own125.rdS | exact rdx), (by first | exact hs1_75 | exact hs1_112 | exact hs1_125 | exact hs1), (by first | exact hs2_75 | exact hs2_112 | exact hs2_125 | exact hs2), (by first | exact hs3_75 | exact hs3_112 | exact hs3_125 | exact hs3), h_b1, rd2, hF⟩
            · obtain ⟨ps, cur, A1, c1, hpl, h_b9, h_bp, own_p, rdx, hs1, hs2, hs3, h_b1, rd2, hF⟩ := hI
              refine opv_run (ldA (n := 4) (cs' := #[.int .i64 r, .int .i64 c, .slice A1 N c1, .int .i64 cur]) (by kernel_rfl) h_b9 (by first | exact Nat.le_of_ble_eq_true rfl | (simp; done) | omega) (by rfl)) ?_
              refine callF_T (c_law14_same h_bp own_p hpl rdx hpl (by omega)) (decide_eq_true ⟨⟨rfl, rfl⟩, rfl, rfl⟩) (fun w43 U43 => ?_)
              replace own_p := own_p.upd0 U43
              replace rdx := rdx.upd0 U43
              replace rd2 := rd2.upd0 U43
              replace h_b9 := U43.get0 h_b9
              replace h_bp := U43.get0 h_bp
              replace h_b1 := U43.get0 h_b1
              replace hF := hF.go0 U43
              refine opv_run (notT) ?_
              refine condf ?_
              first | refine opv_run (add_i64 _ (by omega)) ?_ | refine opv_run (addI _ _ _ _) ?_
              exact ⟨⟨k + 1, _, _, _, _, (by first | exact g50 | rfl), by omega, hpl, h_b9, h_bp, own_p, rdx, hs1, hs2, hs3, h_b1, rd2, hF⟩, cnt_lt (by first | rfl | exact g50) rfl (by omega)⟩
          · refine condf ?_
            refine hJ1 _ _ ?_
            exact ⟨_, _, _, _, hpl, h_b9, h_bp, own_p, rdx, hs1, hs2, hs3, h_b1, rd2, hF⟩
      · obtain ⟨ps, cur, A1, c1, hpl, h_b9, h_bp, own_p, rdx, hs1, hs2, hs3, h_b1, rd2, hF⟩ := hI
        refine callF_val (c_Plane_At h_bp own_p hpl (i := -1)) (fun w44 U44 => ?_)
        replace own_p := own_p.upd0 U44
        replace rdx := rdx.upd0 U44
        replace rd2 := rd2.upd0 U44
        replace h_b9 := U44.get0 h_b9
        replace h_bp := U44.get0 h_bp
        replace h_b1 := U44.get0 h_b1
        replace hF := hF.go0 U44
        refine opv_run (build_eq (l := [(0, 1), (1, 1), (2, 1), (3, 1), (4, 1)]) (z := #[.int .u8 0, .bool false, .bool false, .int .u8 0, .int .u8 0]) (cs := (Gs.cv Gs.zc)) (by kernel_rfl) (by rfl)) ?_
        refine opv_T (eq_Cell _) (Gs.getC_out (by omega)) ?_
        refine gdtt ?_
        refine gdtt ?_
        refine gdtt ?_
        refine callF_val (c_Plane_Len h_bp own_p hpl) (fun w45 U45 => ?_)
        replace own_p := own_p.upd0 U45
        replace rdx := rdx.upd0 U45
        replace rd2 := rd2.upd0 U45
        replace h_b9 := U45.get0 h_b9
        replace h_bp := U45.get0 h_bp
        replace h_b1 := U45.get0 h_b1
        replace hF := hF.go0 U45
        refine gdtt ?_
        refine callF_val (c_Plane_At h_bp own_p hpl (i := (N : Int))) (fun w46 U46 => ?_)
        replace own_p := own_p.upd0 U46
        replace rdx := rdx.upd0 U46
        replace rd2 := rd2.upd0 U46
        replace h_b9 := U46.get0 h_b9
        replace h_bp := U46.get0 h_bp
        replace h_b1 := U46.get0 h_b1
        replace hF := hF.go0 U46
        refine gdtt ?_
        refine opv_run (build_eq (l := [(0, 1), (1, 1), (2, 1), (3, 1), (4, 1)]) (z := #[.int .u8 0, .bool false, .bool false, .int .u8 0, .int .u8 0]) (cs := (Gs.cv Gs.zc)) (by kernel_rfl) (by rfl)) ?_
        refine gdtt ?_
        refine opv_T (eq_Cell _) (Gs.getC_out (by omega)) ?_
        refine pickt ?_
        exact ⟨rfl, hF⟩

end Go.Proofs.YtojcbhkhfcddnaaDoor
