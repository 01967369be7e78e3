/-
  Contracts of functions of the program, walked over their shallow forms. No condition but the ones that each states.
-/
import Derived.Test.YtojcbhkhfcddnaaDoorPf
import Derived.Test.YtojcbhkhfcddnaaDoorFL
namespace Go.Proofs.YtojcbhkhfcddnaaDoor
open Go Go.Sh
set_option linter.unusedVariables false
set_option maxRecDepth 100000


/-- greenscreen/greenscreenlaw14.alive -/
theorem c_law14_alive {w : World} :
    Calls Tryd.prog 8 #[] w fun e w' => e = .returned (.bool true) ∧ Upd no w w' := by
  refine F8.calls ?_
  unfold F8
  have hF : Upd no w w := Fr.refl _ _ _
  refine opv_run (build_eq (l := [(0, 1), (1, 1)]) (z := #[.int .i64 0, .int .i64 0]) (by kernel_rfl) (by first | (simp [fillL, splice, repL, Value.cells]; done) | (simp [fillL, splice, repL, Value.cells]; rfl))) ?_
  refine callF_ex (c_plane_New1 (r := 2) (c := 3) (by decide)) (fun v1 w1 D1 => ?_)
  obtain ⟨bp, gp, rfl, gbp, h_bp, own_p, U1⟩ := D1
  rw [show (Gs.cellsN 2 3).toNat = 6 by decide] at h_bp own_p
  have ge_bp : w.heap.size ≤ bp := by have := hF.size; omega
  replace own_p := own_p.mono (B' := w.heap.size) hF.size
  replace hF := hF.go0 U1
  refine opv_run (ext_t (by rfl)) ?_
  refine opv_run (ext_t (by rfl)) ?_
  refine opv_run (build_eq (l := [(0, 1), (1, 1)]) (z := #[.int .i64 0, .int .i64 0]) (by kernel_rfl) (by first | (simp [fillL, splice, repL, Value.cells]; done) | (simp [fillL, splice, repL, Value.cells]; rfl))) ?_
  refine callF_val (c_plane_New0 (r := 0) (c := 0) (by decide)) (fun w2 U2 => ?_)
  replace own_p := own_p.upd0 U2
  replace h_bp := U2.get0 h_bp
  replace hF := hF.go0 U2
  refine opv_run (ext_t (by rfl)) ?_
  refine opv_run (ext_t (by rfl)) ?_
  refine opv_run (v := .bool false) (eqPN (e := 66) (by kernel_rfl)) ?_
  refine condf ?_
  refine opv_run (build_eq (l := [(0, 1), (1, 1), (2, 1), (3, 1), (4, 1)]) (z := #[.int .u8 0, .bool false, .bool false, .int .u8 0, .int .u8 0]) (by kernel_rfl) (by first | (simp [fillL, splice, repL, Value.cells]; done) | (simp [fillL, splice, repL, Value.cells]; rfl))) ?_
  refine callF_ex (c_Plane_Fill h_bp own_p (by rfl) (i := 5) (j := 1) (x := ⟨193, false, false, 0, 0⟩) (by decide)) (fun v3 w3 D3 => ?_)
  obtain ⟨rfl, N3, U3⟩ := D3
  have own_p_o := own_p
  replace h_bp := U3.get h_bp (fun h => by first | (have := Own.ge own_p_o h; omega) | exact Own.ne_blk own_p_o h_bp (by decide) _ h rfl | exact Own.not_loop own_p_o h_bp (by assumption) _ h rfl | exact Own.not_def own_p_o h_bp _ h rfl | simp_all)
  replace own_p := N3
  replace hF := hF.go U3 (fun i h hs => by first | exact hs | exact .inl hs | exact .inr hs | (have := (Own.ge own_p_o hs).1; omega))
  clear own_p_o
  rw [show Gs.fillC (List.replicate 6 Gs.zc) (Gs.betw (Gs.cellsN 2 3) 5 1) ⟨193, false, false, 0, 0⟩ = ([⟨193, false, false, 0, 0⟩, Gs.zc, Gs.zc, Gs.zc, Gs.zc, ⟨193, false, false, 0, 0⟩] : List Gs.Cell) by decide +kernel] at own_p
  refine callF_ex (c_Plane_Rows h_bp own_p rfl (page := 37) (by unfold Gs.Cws Gs.Cw; decide : Gs.Cws ([⟨193, false, false, 0, 0⟩, Gs.zc, Gs.zc, Gs.zc, Gs.zc, ⟨193, false, false, 0, 0⟩] : List Gs.Cell)) (by decide) (by decide) (by decide) (by decide)) (fun v4 w4 D4 => ?_)
  obtain ⟨own29, U4⟩ := D4
  have nx4_h_bp_own29 : ¬ ownS _ bp := fun h => by have := (Own.ge own29 h).1; have := lt_get h_bp; omega
  have nx4_own_p_own29 : ∀ k, ownS _ k → ¬ ownS _ k := fun k hk hs => by have := (Own.ge own_p hk).2; have := (Own.ge own29 hs).1; omega
  replace own29 := own29.mono (B' := w.heap.size) hF.size
  replace own_p := own_p.upd0 U4
  replace h_bp := U4.get0 h_bp
  replace hF := hF.go0 U4
  obtain ⟨A29, n29, c29, rfl, hl29, rd29⟩ := own29.rd
  rw [Gs.strs_len, Gs.rowsL_len] at hl29
  rw [show Gs.rowsL 37 3 ([⟨193, false, false, 0, 0⟩, Gs.zc, Gs.zc, Gs.zc, Gs.zc, ⟨193, false, false, 0, 0⟩] : List Gs.Cell) (2 : Int).toNat = [⟨#[65, 32, 32]⟩, ⟨#[32, 32, 65]⟩] by decide +kernel] at own29 rd29
  refine callF_ex (c_Plane_Clone h_bp own_p rfl (by decide) (by decide)) (fun v5 w5 D5 => ?_)
  obtain ⟨bq31, A31, c31, rfl, gb31, h_bq31, own31, U5⟩ := D5
  have ne_bp_bq31 : bp ≠ bq31 := by have := lt_get h_bp; omega
  have na_own_p_bq31 : ∀ k, ownS _ k → k ≠ bq31 := fun k hk => by have := (Own.ge own_p hk).2; omega
  have na_own29_bq31 : ∀ k, ownS _ k → k ≠ bq31 := fun k hk => by have := (Own.ge own29 hk).2; omega
  have ge_bq31 : w.heap.size ≤ bq31 := by have := hF.size; omega
  have nx5_h_bp_own31 : ¬ ownS _ bp := fun h => by have := (Own.ge own31 h).1; have := lt_get h_bp; omega
  have nx5_own_p_own31 : ∀ k, ownS _ k → ¬ ownS _ k := fun k hk hs => by have := (Own.ge own_p hk).2; have := (Own.ge own31 hs).1; omega
  have nx5_own29_own31 : ∀ k, ownS _ k → ¬ ownS _ k := fun k hk hs => by have := (Own.ge own29 hk).2; have := (Own.ge own31 hs).1; omega
  replace own31 := own31.mono (B' := w.heap.size) hF.size
  replace own_p := own_p.upd0 U5
  replace own29 := own29.upd0 U5
  replace h_bp := U5.get0 h_bp
  replace hF := hF.go0 U5
  refine opv_run (v := .bool false) (eqPN (e := 66) (by kernel_rfl)) ?_
  refine gdff ?_
  refine gdff ?_
  refine opv_run (len_sl (by kernel_rfl) _ _ _) ?_
  refine gdff ?_
  refine opv_F (neI _ _ _ _ _) (fun hne => hne (by have h2 : (2 : Int).toNat = 2 := rfl; omega)) ?_
  refine pickf ?_
  refine condf ?_
  refine opv_run (build_eq (l := [(0, 1), (1, 1), (2, 1), (3, 1), (4, 1)]) (z := #[.int .u8 0, .bool false, .bool false, .int .u8 0, .int .u8 0]) (by kernel_rfl) (by first | (simp [fillL, splice, repL, Value.cells]; done) | (simp [fillL, splice, repL, Value.cells]; rfl))) ?_
  refine callF_ex (c_Plane_Set h_bp own_p rfl (i := 1) (x := ⟨194, true, false, 0, 0⟩)) (fun v6 w6 D6 => ?_)
  obtain ⟨rfl, N6, U6⟩ := D6
  have own_p_o := own_p
  replace h_bp := U6.get h_bp (fun h => by first | (have := Own.ge own_p_o h; omega) | exact Own.ne_blk own_p_o h_bp (by decide) _ h rfl | exact Own.not_loop own_p_o h_bp (by assumption) _ h rfl | exact Own.not_def own_p_o h_bp _ h rfl | simp_all)
  replace own_p := N6
  replace own29 := own29.updS U6 (fun k hk hs => nx4_own_p_own29 k hs hk)
  replace h_bq31 := U6.get h_bq31 (fun h => na_own_p_bq31 _ h rfl)
  replace own31 := own31.updS U6 (fun k hk hs => nx5_own_p_own31 k hs hk)
  replace hF := hF.go U6 (fun i h hs => by first | exact hs | exact .inl hs | exact .inr hs | (have := (Own.ge own_p_o hs).1; omega))
  clear own_p_o
  rw [decide_eq_true (by first | rfl | decide +kernel)]
  rw [show Gs.setC ([⟨193, false, false, 0, 0⟩, Gs.zc, Gs.zc, Gs.zc, Gs.zc, ⟨193, false, false, 0, 0⟩] : List Gs.Cell) 1 ⟨194, true, false, 0, 0⟩ = ([⟨193, false, false, 0, 0⟩, ⟨194, true, false, 0, 0⟩, Gs.zc, Gs.zc, Gs.zc, ⟨193, false, false, 0, 0⟩] : List Gs.Cell) by decide +kernel] at own_p
  refine callF_ex (c_Plane_Point h_bp own_p rfl (i := 4)) (fun v7 w7 D7 => ?_)
  obtain ⟨rfl, N7, U7⟩ := D7
  replace own_p := own_p.upd1 U7 (by first | assumption | exact Own.ne_blk own_p (by assumption) (by decide) | exact Own.not_loop own_p (by assumption) (by assumption) | exact Own.not_def own_p (by assumption))
  replace own29 := own29.upd1 U7 (by first | assumption | exact Own.ne_blk own29 (by assumption) (by decide) | exact Own.not_loop own29 (by assumption) (by assumption) | exact Own.not_def own29 (by assumption))
  replace own31 := own31.upd1 U7 (by first | assumption | exact Own.ne_blk own31 (by assumption) (by decide) | exact Own.not_loop own31 (by assumption) (by assumption) | exact Own.not_def own31 (by assumption))
  replace h_bp := N7
  replace h_bq31 := U7.get1 h_bq31 (Ne.symm ne_bp_bq31)
  replace hF := hF.go1 U7 ge_bp
  rw [decide_eq_true (by first | rfl | decide +kernel)]
  rw [if_pos (by decide)] at h_bp
  refine callF_ex (c_Plane_Point h_bp own_p rfl (i := 6)) (fun v8 w8 D8 => ?_)
  obtain ⟨rfl, N8, U8⟩ := D8
  replace own_p := own_p.upd1 U8 (by first | assumption | exact Own.ne_blk own_p (by assumption) (by decide) | exact Own.not_loop own_p (by assumption) (by assumption) | exact Own.not_def own_p (by assumption))
  replace own29 := own29.upd1 U8 (by first | assumption | exact Own.ne_blk own29 (by assumption) (by decide) | exact Own.not_loop own29 (by assumption) (by assumption) | exact Own.not_def own29 (by assumption))
  replace own31 := own31.upd1 U8 (by first | assumption | exact Own.ne_blk own31 (by assumption) (by decide) | exact Own.not_loop own31 (by assumption) (by assumption) | exact Own.not_def own31 (by assumption))
  replace h_bp := N8
  replace h_bq31 := U8.get1 h_bq31 (Ne.symm ne_bp_bq31)
  replace hF := hF.go1 U8 ge_bp
  rw [decide_eq_false (by first | rfl | decide +kernel)]
  rw [if_neg (by decide)] at h_bp
  rw [show (⟨#[65, 65]⟩ : ByteArray) = runesBytes [65, 65] by decide +kernel]
  refine callF_val (c_Plane_Find h_bp own_p rfl (page := 37) (l := [65, 65]) (by unfold Gs.Cws Gs.Cw; decide : Gs.Cws ([⟨193, false, false, 0, 0⟩, ⟨194, true, false, 0, 0⟩, Gs.zc, Gs.zc, Gs.zc, ⟨193, false, false, 0, 0⟩] : List Gs.Cell)) (by unfold Gs.Sgn; decide) (by decide) (by decide) (by decide)) (fun w9 U9 => ?_)
  replace own_p := own_p.upd0 U9
  replace own29 := own29.upd0 U9
  replace own31 := own31.upd0 U9
  replace h_bp := U9.get0 h_bp
  replace h_bq31 := U9.get0 h_bq31
  replace hF := hF.go0 U9
  refine callF_F (c_plane_Same h_bp own_p rfl h_bq31 own31 rfl (by decide)) (by first | rfl | decide +kernel) (fun w10 U10 => ?_)
  replace own_p := own_p.upd0 U10
  replace own29 := own29.upd0 U10
  replace own31 := own31.upd0 U10
  replace h_bp := U10.get0 h_bp
  replace h_bq31 := U10.get0 h_bq31
  replace hF := hF.go0 U10
  refine callF_ex (c_Plane_Clear h_bp own_p rfl) (fun v11 w11 D11 => ?_)
  obtain ⟨M11, N11, U11⟩ := D11
  have own_p_o := own_p
  replace own_p := N11
  replace own29 := own29.updS U11 (fun k hk hs => Or.elim (show ownS _ _ ∨ _ = _ from hs) ((fun k hk hs => nx4_own_p_own29 k hs hk) k hk) (fun hb => absurd hb ((show ∀ k, ownS _ k → k ≠ bp from (by first | assumption | exact Own.ne_blk own29 (by assumption) (by decide) | exact Own.not_loop own29 (by assumption) (by assumption) | exact Own.not_def own29 (by assumption))) k hk)))
  replace own31 := own31.updS U11 (fun k hk hs => Or.elim (show ownS _ _ ∨ _ = _ from hs) ((fun k hk hs => nx5_own_p_own31 k hs hk) k hk) (fun hb => absurd hb ((show ∀ k, ownS _ k → k ≠ bp from (by first | assumption | exact Own.ne_blk own31 (by assumption) (by decide) | exact Own.not_loop own31 (by assumption) (by assumption) | exact Own.not_def own31 (by assumption))) k hk)))
  replace h_bp := M11
  replace h_bq31 := U11.get h_bq31 (fun hs => Or.elim (show ownS _ _ ∨ _ = _ from hs) (fun h => by first | exact Own.ne_blk own_p_o h_bq31 (by decide) _ h rfl | (have := Own.ge own_p_o h; omega)) (fun hb => absurd hb (Ne.symm ne_bp_bq31)))
  replace hF := hF.go U11 (fun i h hs => Or.elim (show ownS _ _ ∨ _ = _ from hs) (fun hs => by first | exact hs | exact .inl hs | exact .inr hs | (have := (Own.ge own_p_o hs).1; omega)) (fun hb => by first | (subst hb; omega) | exact .inr hb))
  clear own_p_o
  refine opv_T (eqI _ _ _ _ _) (by first | rfl | decide +kernel) ?_
  refine gdtt ?_
  refine gdtt ?_
  refine opv_T (eqI _ _ _ _ _) (by first | rfl | decide +kernel) ?_
  refine pickt ?_
  refine gdtt ?_
  refine gdtt ?_
  refine opv_T (eqI _ _ _ _ _) (by first | rfl | decide +kernel) ?_
  refine pickt ?_
  refine gdtt ?_
  refine gdtt ?_
  refine idx_load1 (by kernel_rfl) (by kernel_rfl) own29.rdS (by first | rfl | assumption | omega | (simp [Gs.strs]; omega)) (by omega) (by omega) (by rfl) ?_
  refine gdtt ?_
  refine opv_T (eqS _ _ _ _) (by first | rfl | decide +kernel) ?_
  refine pickt ?_
  refine gdtt ?_
  refine gdtt ?_
  refine idx_load1 (by kernel_rfl) (by kernel_rfl) own29.rdS (by first | rfl | assumption | omega | (simp [Gs.strs]; omega)) (by omega) (by omega) (by rfl) ?_
  refine gdtt ?_
  refine opv_T (eqS _ _ _ _) (by first | rfl | decide +kernel) ?_
  refine pickt ?_
  refine gdtt ?_
  refine pickt ?_
  refine gdtt ?_
  refine pickt ?_
  refine gdtt ?_
  refine gdtt ?_
  refine opv_run (notF) ?_
  refine pickt ?_
  refine gdtt ?_
  refine gdtt ?_
  refine opv_T (eqI _ _ _ _ _) (by first | rfl | decide +kernel) ?_
  refine pickt ?_
  refine gdtt ?_
  refine gdtt ?_
  refine opv_run (notF) ?_
  refine pickt ?_
  refine gdtt ?_
  refine gdtt ?_
  refine callF_val (c_Plane_Cursor h_bq31 own31 rfl) (fun w12 U12 => ?_)
  replace own_p := own_p.upd0 U12
  replace own29 := own29.upd0 U12
  replace own31 := own31.upd0 U12
  replace h_bp := U12.get0 h_bp
  replace h_bq31 := U12.get0 h_bq31
  replace hF := hF.go0 U12
  refine gdtt ?_
  refine opv_T (eqI _ _ _ _ _) (by first | rfl | decide +kernel) ?_
  refine pickt ?_
  refine gdtt ?_
  refine gdtt ?_
  refine callF_val (c_Plane_At h_bp own_p rfl (i := 5)) (fun w13 U13 => ?_)
  replace own_p := own_p.upd0 U13
  replace own29 := own29.upd0 U13
  replace own31 := own31.upd0 U13
  replace h_bp := U13.get0 h_bp
  replace h_bq31 := U13.get0 h_bq31
  replace hF := hF.go0 U13
  refine gdtt ?_
  refine opv_run (build_eq (l := [(0, 1), (1, 1), (2, 1), (3, 1), (4, 1)]) (z := #[.int .u8 0, .bool false, .bool false, .int .u8 0, .int .u8 0]) (cs := (Gs.cv Gs.zc)) (by kernel_rfl) (by rfl)) ?_
  refine gdtt ?_
  refine opv_T (eq_Cell _) (by first | rfl | decide +kernel) ?_
  refine pickt ?_
  refine gdtt ?_
  refine gdtt ?_
  refine callF_val (c_Plane_At h_bq31 own31 rfl (i := 5)) (fun w14 U14 => ?_)
  replace own_p := own_p.upd0 U14
  replace own29 := own29.upd0 U14
  replace own31 := own31.upd0 U14
  replace h_bp := U14.get0 h_bp
  replace h_bq31 := U14.get0 h_bq31
  replace hF := hF.go0 U14
  refine gdtt ?_
  refine opv_run (field_one (off := 0) (by kernel_rfl) (by rfl)) ?_
  refine gdtt ?_
  refine opv_T (eqI _ _ _ _ _) (by first | rfl | decide +kernel) ?_
  refine pickt ?_
  refine gdtt ?_
  refine gdtt ?_
  refine callF_val (c_Plane_Cursor h_bp own_p rfl) (fun w15 U15 => ?_)
  replace own_p := own_p.upd0 U15
  replace own29 := own29.upd0 U15
  replace own31 := own31.upd0 U15
  replace h_bp := U15.get0 h_bp
  replace h_bq31 := U15.get0 h_bq31
  replace hF := hF.go0 U15
  refine gdtt ?_
  refine opv_T (eqI _ _ _ _ _) (by first | rfl | decide +kernel) ?_
  refine pickt ?_
  refine gdtt ?_
  refine gdtt ?_
  refine callF_val (c_Plane_Len h_bp own_p rfl) (fun w16 U16 => ?_)
  replace own_p := own_p.upd0 U16
  replace own29 := own29.upd0 U16
  replace own31 := own31.upd0 U16
  replace h_bp := U16.get0 h_bp
  replace h_bq31 := U16.get0 h_bq31
  replace hF := hF.go0 U16
  refine gdtt ?_
  refine opv_T (eqI _ _ _ _ _) (by first | rfl | decide +kernel) ?_
  refine pickt ?_
  refine gdtt ?_
  refine gdtt ?_
  refine callF_val (c_Plane_Size h_bp own_p rfl) (fun w17 U17 => ?_)
  replace own_p := own_p.upd0 U17
  replace own29 := own29.upd0 U17
  replace own31 := own31.upd0 U17
  replace h_bp := U17.get0 h_bp
  replace h_bq31 := U17.get0 h_bq31
  replace hF := hF.go0 U17
  refine gdtt ?_
  refine opv_run (build_eq (l := [(0, 1), (1, 1)]) (z := #[.int .i64 0, .int .i64 0]) (by kernel_rfl) (by first | (simp [fillL, splice, repL, Value.cells]; done) | (simp [fillL, splice, repL, Value.cells]; rfl))) ?_
  refine gdtt ?_
  refine opv_T (eq_Size _) (by first | rfl | decide +kernel) ?_
  refine pickt ?_
  refine gdtt ?_
  refine gdtt ?_
  refine callF_val (c_Plane_Text h_bq31 own31 rfl (page := 37) (f := 5) (m := 2) (by unfold Gs.Cws Gs.Cw; decide : Gs.Cws ([⟨193, false, false, 0, 0⟩, Gs.zc, Gs.zc, Gs.zc, Gs.zc, ⟨193, false, false, 0, 0⟩] : List Gs.Cell)) (by decide) (by decide)) (fun w18 U18 => ?_)
  replace own_p := own_p.upd0 U18
  replace own29 := own29.upd0 U18
  replace own31 := own31.upd0 U18
  replace h_bp := U18.get0 h_bp
  replace h_bq31 := U18.get0 h_bq31
  replace hF := hF.go0 U18
  refine gdtt ?_
  refine opv_T (eqS _ _ _ _) (by first | rfl | decide +kernel) ?_
  refine pickt ?_
  exact ⟨rfl, hF⟩

end Go.Proofs.YtojcbhkhfcddnaaDoor
