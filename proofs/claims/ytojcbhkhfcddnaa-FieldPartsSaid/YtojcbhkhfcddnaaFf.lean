/-
  Contracts of functions of the program, walked over their shallow forms. No condition but the ones that each states.
-/
import Derived.Test.YtojcbhkhfcddnaaFe
namespace Go.Proofs.Ytojcbhkhfcddnaa
open Go Go.Sh
set_option linter.unusedVariables false
set_option maxRecDepth 100000


set_option maxHeartbeats 2000000 in
/-- greenscreen/greenscreenlaw15.alive -/
theorem c_law15_alive {w : World} :
    Calls Try.prog 8 #[] w fun e w' => e = .returned (.bool true) ∧ Upd no w w' := by
  refine F8.calls ?_
  unfold F8
  have hF : Upd no w w := Fr.refl _ _ _
  refine opv_run (build_eq (l := [(0, 1), (1, 1)]) (z := #[.int .i64 0, .int .i64 0]) (by kernel_rfl) (by first | (simp [fillL, splice, repL, Value.cells, Gs.cv, Gs.fv]; done) | (simp [fillL, splice, repL, Value.cells, Gs.cv, Gs.fv]; rfl))) ?_
  refine callF_ex (c_plane_New1 (r := 1) (c := 5) (by decide)) (fun v1 w1 D1 => ?_)
  obtain ⟨bp, gp, rfl, gbp, h_bp, own_p, U1⟩ := D1
  rw [show (Gs.cellsN 1 5).toNat = 5 by decide] at h_bp own_p
  have ge_bp : w.heap.size ≤ bp := by have := hF.size; omega
  replace own_p := own_p.mono (B' := w.heap.size) hF.size
  replace hF := hF.go0 U1
  refine opv_run (ext_t (by rfl)) ?_
  refine opv_run (ext_t (by rfl)) ?_
  refine opv_run (v := .bool false) (eqPN (e := 102) (by kernel_rfl)) ?_
  refine condf ?_
  refine callF_F (c_field_Formatted h_bp own_p (by rfl) (by decide) (by decide)) (by first | rfl | decide +kernel) (fun w2 U2 => ?_)
  replace own_p := own_p.upd0 U2
  replace h_bp := U2.get0 h_bp
  replace hF := hF.go0 U2
  refine callF_T (c_field_Open h_bp own_p (by rfl) (i := 2) (by decide) (by decide) (Gs.Cws.rep 5)) (by first | rfl | decide +kernel) (fun w3 U3 => ?_)
  replace own_p := own_p.upd0 U3
  replace h_bp := U3.get0 h_bp
  replace hF := hF.go0 U3
  refine opv_run (build_eq (l := [(0, 1), (1, 1), (2, 1), (3, 1), (4, 1)]) (z := #[.int .u8 0, .bool false, .bool false, .int .u8 0, .int .u8 0]) (by kernel_rfl) (by first | (simp [fillL, splice, repL, Value.cells, Gs.cv, Gs.fv]; done) | (simp [fillL, splice, repL, Value.cells, Gs.cv, Gs.fv]; rfl))) ?_
  refine callF_ex (c_Plane_Set h_bp own_p (by rfl) (i := 3) (x := (⟨64, false, true, 0, 0⟩ : Gs.Cell))) (fun v4 w4 D4 => ?_)
  obtain ⟨rfl, N4, U4⟩ := D4
  have own_p_o := own_p
  replace h_bp := U4.get h_bp (fun h => by first | (have := Own.ge own_p_o h; omega) | exact Own.ne_blk own_p_o h_bp (by decide) _ h rfl | exact Own.not_loop own_p_o h_bp (by assumption) _ h rfl | exact Own.not_def own_p_o h_bp _ h rfl | simp_all)
  replace own_p := N4
  replace hF := hF.go U4 (fun i h hs => by first | exact hs | exact .inl hs | exact .inr hs | (have := (Own.ge own_p_o hs).1; omega))
  clear own_p_o
  rw [show Gs.setC (List.replicate 5 Gs.zc) 3 (⟨64, false, true, 0, 0⟩ : Gs.Cell) = ([Gs.zc, Gs.zc, Gs.zc, (⟨64, false, true, 0, 0⟩ : Gs.Cell), Gs.zc] : List Gs.Cell) by decide +kernel] at own_p
  refine opv_run (build_eq (l := [(0, 1), (1, 1), (2, 1), (3, 1), (4, 1)]) (z := #[.int .u8 0, .bool false, .bool false, .int .u8 0, .int .u8 0]) (by kernel_rfl) (by first | (simp [fillL, splice, repL, Value.cells, Gs.cv, Gs.fv]; done) | (simp [fillL, splice, repL, Value.cells, Gs.cv, Gs.fv]; rfl))) ?_
  refine callF_ex (c_Plane_Set h_bp own_p (by rfl) (i := 4) (x := (⟨193, false, false, 0, 0⟩ : Gs.Cell))) (fun v5 w5 D5 => ?_)
  obtain ⟨rfl, N5, U5⟩ := D5
  have own_p_o := own_p
  replace h_bp := U5.get h_bp (fun h => by first | (have := Own.ge own_p_o h; omega) | exact Own.ne_blk own_p_o h_bp (by decide) _ h rfl | exact Own.not_loop own_p_o h_bp (by assumption) _ h rfl | exact Own.not_def own_p_o h_bp _ h rfl | simp_all)
  replace own_p := N5
  replace hF := hF.go U5 (fun i h hs => by first | exact hs | exact .inl hs | exact .inr hs | (have := (Own.ge own_p_o hs).1; omega))
  clear own_p_o
  rw [show Gs.setC ([Gs.zc, Gs.zc, Gs.zc, (⟨64, false, true, 0, 0⟩ : Gs.Cell), Gs.zc] : List Gs.Cell) 4 (⟨193, false, false, 0, 0⟩ : Gs.Cell) = ([Gs.zc, Gs.zc, Gs.zc, (⟨64, false, true, 0, 0⟩ : Gs.Cell), (⟨193, false, false, 0, 0⟩ : Gs.Cell)] : List Gs.Cell) by decide +kernel] at own_p
  have hwA : Gs.Cws ([Gs.zc, Gs.zc, Gs.zc, (⟨64, false, true, 0, 0⟩ : Gs.Cell), (⟨193, false, false, 0, 0⟩ : Gs.Cell)] : List Gs.Cell) := by unfold Gs.Cws Gs.Cw; decide
  have hwB : Gs.Cws ([Gs.zc, Gs.zc, Gs.zc, (⟨65, false, true, 0, 0⟩ : Gs.Cell), (⟨193, false, false, 0, 0⟩ : Gs.Cell)] : List Gs.Cell) := by unfold Gs.Cws Gs.Cw; decide
  refine callF_val (c_field_Of h_bp own_p rfl (i := 1) (by decide) (by decide) hwA) (fun w6 U6 => ?_)
  replace own_p := own_p.upd0 U6
  replace h_bp := U6.get0 h_bp
  replace hF := hF.go0 U6
  rw [show Gs.ofM ([Gs.zc, Gs.zc, Gs.zc, (⟨64, false, true, 0, 0⟩ : Gs.Cell), (⟨193, false, false, 0, 0⟩ : Gs.Cell)] : List Gs.Cell) 1 = (⟨3, 4, 0⟩ : Gs.Fld) by decide +kernel, show Gs.ofB ([Gs.zc, Gs.zc, Gs.zc, (⟨64, false, true, 0, 0⟩ : Gs.Cell), (⟨193, false, false, 0, 0⟩ : Gs.Cell)] : List Gs.Cell) 1 = true by decide +kernel]
  refine opv_run (ext_t (by rfl)) ?_
  refine opv_run (ext_t (by rfl)) ?_
  refine alloc_intro (cs := (Gs.fv Gs.zf).toArray) (by kernel_rfl) (fun b7 w7 e7 h_b7 _ U7 => ?_)
  have ne_bp_b7 : bp ≠ b7 := by have := lt_get h_bp; omega
  have na_own_p_b7 := own_p.apart e7
  have ge_b7 : w.heap.size ≤ b7 := by have := hF.size; omega
  replace own_p := own_p.upd0 U7
  replace h_bp := U7.get0 h_bp
  replace hF := hF.go0 U7
  clear e7
  refine store_intro (n := 3) (cs' := (Gs.fv (⟨3, 4, 0⟩ : Gs.Fld)).toArray) (by kernel_rfl) (by rfl) (by first | rfl | (simp [Value.cells, Value.oneCell', Gs.cv, Gs.fv]; done)) h_b7 (by first | exact Nat.le_of_ble_eq_true rfl | (simp; done) | omega) (by rfl) (fun w8 N8 _ U8 => ?_)
  replace own_p := own_p.upd1 U8 na_own_p_b7
  replace h_bp := U8.get1 h_bp ne_bp_b7
  replace h_b7 := N8
  replace hF := hF.go1 U8 ge_b7
  refine callF_ex (c_field_Mark h_bp own_p rfl (i := 0) (by decide) (by decide) hwA) (fun v9 w9 D9 => ?_)
  obtain ⟨rfl, N9, U9⟩ := D9
  have own_p_o := own_p
  replace h_bp := U9.get h_bp (fun h => by first | (have := Own.ge own_p_o h; omega) | exact Own.ne_blk own_p_o h_bp (by decide) _ h rfl | exact Own.not_loop own_p_o h_bp (by assumption) _ h rfl | exact Own.not_def own_p_o h_bp _ h rfl | simp_all)
  replace own_p := N9
  replace h_b7 := U9.get h_b7 (fun h => na_own_p_b7 _ h rfl)
  replace hF := hF.go U9 (fun i h hs => by first | exact hs | exact .inl hs | exact .inr hs | (have := (Own.ge own_p_o hs).1; omega))
  clear own_p_o
  rw [decide_eq_true (by first | rfl | decide +kernel)]
  rw [show Gs.markC ([Gs.zc, Gs.zc, Gs.zc, (⟨64, false, true, 0, 0⟩ : Gs.Cell), (⟨193, false, false, 0, 0⟩ : Gs.Cell)] : List Gs.Cell) 0 = ([Gs.zc, Gs.zc, Gs.zc, (⟨65, false, true, 0, 0⟩ : Gs.Cell), (⟨193, false, false, 0, 0⟩ : Gs.Cell)] : List Gs.Cell) by decide +kernel] at own_p
  refine callF_ex (c_field_Unmark h_bp own_p rfl (by decide) (by decide) hwB) (fun v10 w10 D10 => ?_)
  obtain ⟨rfl, N10, U10⟩ := D10
  have own_p_o := own_p
  replace h_bp := U10.get h_bp (fun h => by first | (have := Own.ge own_p_o h; omega) | exact Own.ne_blk own_p_o h_bp (by decide) _ h rfl | exact Own.not_loop own_p_o h_bp (by assumption) _ h rfl | exact Own.not_def own_p_o h_bp _ h rfl | simp_all)
  replace own_p := N10
  replace h_b7 := U10.get h_b7 (fun h => na_own_p_b7 _ h rfl)
  replace hF := hF.go U10 (fun i h hs => by first | exact hs | exact .inl hs | exact .inr hs | (have := (Own.ge own_p_o hs).1; omega))
  clear own_p_o
  rw [show Gs.unmC ([Gs.zc, Gs.zc, Gs.zc, (⟨65, false, true, 0, 0⟩ : Gs.Cell), (⟨193, false, false, 0, 0⟩ : Gs.Cell)] : List Gs.Cell) (Gs.startsN ([Gs.zc, Gs.zc, Gs.zc, (⟨65, false, true, 0, 0⟩ : Gs.Cell), (⟨193, false, false, 0, 0⟩ : Gs.Cell)] : List Gs.Cell)) = ([Gs.zc, Gs.zc, Gs.zc, (⟨64, false, true, 0, 0⟩ : Gs.Cell), (⟨193, false, false, 0, 0⟩ : Gs.Cell)] : List Gs.Cell) by decide +kernel] at own_p
  rw [show (Gs.unmN ([Gs.zc, Gs.zc, Gs.zc, (⟨65, false, true, 0, 0⟩ : Gs.Cell), (⟨193, false, false, 0, 0⟩ : Gs.Cell)] : List Gs.Cell) (Gs.startsN ([Gs.zc, Gs.zc, Gs.zc, (⟨65, false, true, 0, 0⟩ : Gs.Cell), (⟨193, false, false, 0, 0⟩ : Gs.Cell)] : List Gs.Cell)).length : Nat) = 1 by decide +kernel]
  refine opv_run (notF) ?_
  refine gdtt ?_
  refine pickt ?_
  refine gdtt ?_
  refine gdtt ?_
  refine callF_T (c_field_Formatted h_bp own_p rfl (by decide) (by decide)) (by first | rfl | decide +kernel) (fun w11 U11 => ?_)
  replace own_p := own_p.upd0 U11
  replace h_bp := U11.get0 h_bp
  replace h_b7 := U11.get0 h_b7
  replace hF := hF.go0 U11
  refine pickt ?_
  refine gdtt ?_
  refine pickt ?_
  refine gdtt ?_
  refine opv_run (ldA (n := 3) (cs' := (Gs.fv (⟨3, 4, 0⟩ : Gs.Fld)).toArray) (by kernel_rfl) h_b7 (by first | exact Nat.le_of_ble_eq_true rfl | (simp; done) | omega) (by rfl)) ?_
  refine gdtt ?_
  refine opv_run (build_eq (l := [(0, 1), (1, 1), (2, 1)]) (z := #[.int .i64 0, .int .i64 0, .int .u8 0]) (by kernel_rfl) (by first | (simp [fillL, splice, repL, Value.cells, Gs.cv, Gs.fv]; done) | (simp [fillL, splice, repL, Value.cells, Gs.cv, Gs.fv]; rfl))) ?_
  refine gdtt ?_
  refine opv_T (eq_Fld (a := (⟨3, 4, 0⟩ : Gs.Fld)) (b := (⟨3, 4, 0⟩ : Gs.Fld)) _) rfl ?_
  refine pickt ?_
  refine gdtt ?_
  refine gdtt ?_
  refine opv_run (ldA (n := 3) (cs' := (Gs.fv (⟨3, 4, 0⟩ : Gs.Fld)).toArray) (by kernel_rfl) h_b7 (by first | exact Nat.le_of_ble_eq_true rfl | (simp; done) | omega) (by rfl)) ?_
  refine gdtt ?_
  refine callF_ex (c_law15_places h_bp own_p rfl (f := (⟨3, 4, 0⟩ : Gs.Fld)) (m := 9) (by decide) (by decide) (by decide)) (fun v13 w13 D13 => ?_)
  obtain ⟨own55, U13⟩ := D13
  have nx13_h_bp_own55 : ¬ ownS _ bp := fun h => by have := (Own.ge own55 h).1; have := lt_get h_bp; omega
  have nx13_own_p_own55 : ∀ k, ownS _ k → ¬ ownS _ k := fun k hk hs => by have := (Own.ge own_p hk).2; have := (Own.ge own55 hs).1; omega
  have nx13_h_b7_own55 : ¬ ownS _ b7 := fun h => by have := (Own.ge own55 h).1; have := lt_get h_b7; omega
  replace own55 := own55.mono (B' := w.heap.size) hF.size
  replace own_p := own_p.upd0 U13
  replace h_bp := U13.get0 h_bp
  replace h_b7 := U13.get0 h_b7
  replace hF := hF.go0 U13
  rw [show (Gs.placesL 5 (⟨3, 4, 0⟩ : Gs.Fld)).take (9 : Int).toNat = [4, 0, 1, 2] by decide +kernel] at own55
  obtain ⟨A55, c55, rfl, _⟩ := own55.rd1
  refine gdtt ?_
  refine buildSlice_intro (e := 3) (m := 1) (z := #[.int .i64 0]) (by kernel_rfl) (by kernel_rfl) (by rfl) (by decide) (by first | (simp [fillL, splice, repL, Value.cells, Gs.cv, Gs.fv]; done) | (simp [fillL, splice, repL, Value.cells, Gs.cv, Gs.fv]; rfl)) (fun b14 w14 e14 h_b14 _ U14 => ?_)
  have ne_bp_b14 : bp ≠ b14 := by have := lt_get h_bp; omega
  have na_own_p_b14 := own_p.apart e14
  have ne_b7_b14 : b7 ≠ b14 := by have := lt_get h_b7; omega
  have na_own55_b14 := own55.apart e14
  have ge_b14 : w.heap.size ≤ b14 := by have := hF.size; omega
  replace own_p := own_p.upd0 U14
  replace own55 := own55.upd0 U14
  replace h_bp := U14.get0 h_bp
  replace h_b7 := U14.get0 h_b7
  replace hF := hF.go0 U14
  clear e14
  refine gdtt ?_
  refine callF_T (c_ref01_SameInts own55.rdS rfl (show Rd _ _ (vals .i64 [4, 0, 1, 2]) from Rd.of_blockL h_b14) rfl (by decide)) (by first | rfl | decide +kernel) (fun w15 U15 => ?_)
  replace own_p := own_p.upd0 U15
  replace own55 := own55.upd0 U15
  replace h_bp := U15.get0 h_bp
  replace h_b7 := U15.get0 h_b7
  replace h_b14 := U15.get0 h_b14
  replace hF := hF.go0 U15
  refine pickt ?_
  refine gdtt ?_
  refine gdtt ?_
  refine callF_val (c_field_Before h_bp own_p rfl (i := 3) (by decide) (by decide)) (fun w16 U16 => ?_)
  replace own_p := own_p.upd0 U16
  replace own55 := own55.upd0 U16
  replace h_bp := U16.get0 h_bp
  replace h_b7 := U16.get0 h_b7
  replace h_b14 := U16.get0 h_b14
  replace hF := hF.go0 U16
  refine gdtt ?_
  refine opv_T (eqI _ _ _ _ _) (by first | rfl | decide +kernel) ?_
  refine pickt ?_
  refine gdtt ?_
  refine gdtt ?_
  refine callF_val (c_field_After h_bp own_p rfl (i := 3) (by decide) (by decide)) (fun w17 U17 => ?_)
  replace own_p := own_p.upd0 U17
  replace own55 := own55.upd0 U17
  replace h_bp := U17.get0 h_bp
  replace h_b7 := U17.get0 h_b7
  replace h_b14 := U17.get0 h_b14
  replace hF := hF.go0 U17
  refine gdtt ?_
  refine opv_T (eqI _ _ _ _ _) (by first | rfl | decide +kernel) ?_
  refine pickt ?_
  refine gdtt ?_
  refine gdtt ?_
  refine opv_run (ldA (n := 3) (cs' := (Gs.fv (⟨3, 4, 0⟩ : Gs.Fld)).toArray) (by kernel_rfl) h_b7 (by first | exact Nat.le_of_ble_eq_true rfl | (simp; done) | omega) (by rfl)) ?_
  refine gdtt ?_
  refine callF_ex (c_field_Data h_bp own_p rfl (f := (⟨3, 4, 0⟩ : Gs.Fld)) (by decide) (by decide) hwA) (fun v18 w18 D18 => ?_)
  obtain ⟨own72, U18⟩ := D18
  have nx18_h_bp_own72 : ¬ ownS _ bp := fun h => by have := (Own.ge own72 h).1; have := lt_get h_bp; omega
  have nx18_own_p_own72 : ∀ k, ownS _ k → ¬ ownS _ k := fun k hk hs => by have := (Own.ge own_p hk).2; have := (Own.ge own72 hs).1; omega
  have nx18_h_b7_own72 : ¬ ownS _ b7 := fun h => by have := (Own.ge own72 h).1; have := lt_get h_b7; omega
  have nx18_own55_own72 : ∀ k, ownS _ k → ¬ ownS _ k := fun k hk hs => by have := (Own.ge own55 hk).2; have := (Own.ge own72 hs).1; omega
  have nx18_h_b14_own72 : ¬ ownS _ b14 := fun h => by have := (Own.ge own72 h).1; have := lt_get h_b14; omega
  replace own72 := own72.mono (B' := w.heap.size) hF.size
  replace own_p := own_p.upd0 U18
  replace own55 := own55.upd0 U18
  replace h_bp := U18.get0 h_bp
  replace h_b7 := U18.get0 h_b7
  replace h_b14 := U18.get0 h_b14
  replace hF := hF.go0 U18
  rw [show Gs.dataM ([Gs.zc, Gs.zc, Gs.zc, (⟨64, false, true, 0, 0⟩ : Gs.Cell), (⟨193, false, false, 0, 0⟩ : Gs.Cell)] : List Gs.Cell) (⟨3, 4, 0⟩ : Gs.Fld) = [193, 0, 0, 0] by decide +kernel] at own72
  obtain ⟨A72, c72, rfl, _⟩ := own72.rd1
  refine gdtt ?_
  refine opv_run (convBS (e := 5) (by kernel_rfl) (by kernel_rfl) (by kernel_rfl) own72.rdS (by first | rfl | assumption | (simp; done) | omega)) ?_
  refine gdtt ?_
  refine opv_T (eqS _ _ _ _) (by first | rfl | decide +kernel) ?_
  refine pickt ?_
  refine gdtt ?_
  refine gdtt ?_
  refine callF_F (c_field_Open h_bp own_p rfl (i := 3) (by decide) (by decide) hwA) (by first | rfl | decide +kernel) (fun w19 U19 => ?_)
  replace own_p := own_p.upd0 U19
  replace own55 := own55.upd0 U19
  replace own72 := own72.upd0 U19
  replace h_bp := U19.get0 h_bp
  replace h_b7 := U19.get0 h_b7
  replace h_b14 := U19.get0 h_b14
  replace hF := hF.go0 U19
  refine gdtt ?_
  refine opv_run (notF) ?_
  refine pickt ?_
  refine gdtt ?_
  refine gdtt ?_
  refine callF_T (c_field_Open h_bp own_p rfl (i := 4) (by decide) (by decide) hwA) (by first | rfl | decide +kernel) (fun w20 U20 => ?_)
  replace own_p := own_p.upd0 U20
  replace own55 := own55.upd0 U20
  replace own72 := own72.upd0 U20
  replace h_bp := U20.get0 h_bp
  replace h_b7 := U20.get0 h_b7
  replace h_b14 := U20.get0 h_b14
  replace hF := hF.go0 U20
  refine pickt ?_
  refine gdtt ?_
  refine pickt ?_
  refine gdtt ?_
  refine gdtt ?_
  refine opv_T (eqI _ _ _ _ _) (by first | rfl | decide +kernel) ?_
  refine pickt ?_
  refine gdtt ?_
  refine gdtt ?_
  refine callF_val (c_field_Home h_bp own_p rfl (by decide) (by decide) hwA) (fun w21 U21 => ?_)
  replace own_p := own_p.upd0 U21
  replace own55 := own55.upd0 U21
  replace own72 := own72.upd0 U21
  replace h_bp := U21.get0 h_bp
  replace h_b7 := U21.get0 h_b7
  replace h_b14 := U21.get0 h_b14
  replace hF := hF.go0 U21
  refine gdtt ?_
  refine opv_T (eqI _ _ _ _ _) (by first | rfl | decide +kernel) ?_
  refine pickt ?_
  refine gdtt ?_
  refine gdtt ?_
  refine opv_run (ldA (n := 3) (cs' := (Gs.fv (⟨3, 4, 0⟩ : Gs.Fld)).toArray) (by kernel_rfl) h_b7 (by first | exact Nat.le_of_ble_eq_true rfl | (simp; done) | omega) (by rfl)) ?_
  refine gdtt ?_
  refine callF_val (c_field_Text h_bp own_p rfl (page := 37) (f := (⟨3, 4, 0⟩ : Gs.Fld)) (by decide) (by decide) (by decide) hwA (by decide)) (fun w22 U22 => ?_)
  replace own_p := own_p.upd0 U22
  replace own55 := own55.upd0 U22
  replace own72 := own72.upd0 U22
  replace h_bp := U22.get0 h_bp
  replace h_b7 := U22.get0 h_b7
  replace h_b14 := U22.get0 h_b14
  replace hF := hF.go0 U22
  refine gdtt ?_
  refine opv_T (eqS _ _ _ _) (by first | rfl | decide +kernel) ?_
  refine pickt ?_
  refine gdtt ?_
  refine gdtt ?_
  refine callF_ex (c_law15_all h_bp own_p rfl (m := 9) (by decide) (by decide) hwA (by decide)) (fun v23 w23 D23 => ?_)
  obtain ⟨own105, U23⟩ := D23
  have nx23_h_bp_own105 : ¬ ownS _ bp := fun h => by have := (Own.ge own105 h).1; have := lt_get h_bp; omega
  have nx23_own_p_own105 : ∀ k, ownS _ k → ¬ ownS _ k := fun k hk hs => by have := (Own.ge own_p hk).2; have := (Own.ge own105 hs).1; omega
  have nx23_h_b7_own105 : ¬ ownS _ b7 := fun h => by have := (Own.ge own105 h).1; have := lt_get h_b7; omega
  have nx23_own55_own105 : ∀ k, ownS _ k → ¬ ownS _ k := fun k hk hs => by have := (Own.ge own55 hk).2; have := (Own.ge own105 hs).1; omega
  have nx23_h_b14_own105 : ¬ ownS _ b14 := fun h => by have := (Own.ge own105 h).1; have := lt_get h_b14; omega
  have nx23_own72_own105 : ∀ k, ownS _ k → ¬ ownS _ k := fun k hk hs => by have := (Own.ge own72 hk).2; have := (Own.ge own105 hs).1; omega
  replace own105 := own105.mono (B' := w.heap.size) hF.size
  replace own_p := own_p.upd0 U23
  replace own55 := own55.upd0 U23
  replace own72 := own72.upd0 U23
  replace h_bp := U23.get0 h_bp
  replace h_b7 := U23.get0 h_b7
  replace h_b14 := U23.get0 h_b14
  replace hF := hF.go0 U23
  rw [show (Gs.allM ([Gs.zc, Gs.zc, Gs.zc, (⟨64, false, true, 0, 0⟩ : Gs.Cell), (⟨193, false, false, 0, 0⟩ : Gs.Cell)] : List Gs.Cell)).take (9 : Int).toNat = [(⟨3, 4, 0⟩ : Gs.Fld)] by decide +kernel] at own105
  obtain ⟨A105, c105, rfl⟩ := Own.open Gs.encF own105
  refine gdtt ?_
  refine opv_run (len_sl (by kernel_rfl) _ _ _) ?_
  refine gdtt ?_
  refine opv_T (eqI _ _ _ _ _) (by first | rfl | decide +kernel) ?_
  refine pickt ?_
  exact ⟨rfl, hF⟩

end Go.Proofs.Ytojcbhkhfcddnaa
