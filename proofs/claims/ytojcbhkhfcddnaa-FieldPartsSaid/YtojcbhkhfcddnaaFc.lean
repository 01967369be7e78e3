/-
  Contracts of functions of the program, walked over their shallow forms. No condition but the ones that each states.
-/
import Derived.Test.YtojcbhkhfcddnaaFb
namespace Go.Proofs.Ytojcbhkhfcddnaa
open Go Go.Sh
set_option linter.unusedVariables false
set_option maxRecDepth 100000


/-- greenscreen/field.Data -/
theorem c_field_Data {r c cur : Int} {A : Option Addr} {n cp bp B0 : Nat} {cs : List Gs.Cell} {w : World} (h_bp : w.heap[bp]? = some (.cells #[.int .i64 r, .int .i64 c, .slice A n cp, .int .i64 cur] 102 (0, 0))) (own_p : Own B0 w 45 5 (.slice A n cp) (rows Gs.cv cs)) (hn : n = cs.length) {f : Gs.Fld} (hN : Gs.cellsN r c = n) (hb : n ≤ 4096) (hcw : Gs.Cws cs)  :
    Calls Try.prog 19 #[.pointer (some ⟨bp, 0, none⟩), .agg (Gs.fv f).toArray] w fun e w' => ∃ v, e = .returned v ∧ Own w.heap.size w' 5 1 v (vals .u8 (Gs.dataM cs f)) ∧ Upd no w w' := by
  refine F19.calls ?_
  unfold F19
  subst hn
  have lt_h_bp := lt_get h_bp
  have lt_own_p := Own.lt own_p
  have hF : Upd no w w := Fr.refl _ _ _
  refine box_intro (by rfl) (fun b1 w1 e1 h_b1 _ U1 => ?_)
  have ne_bp_b1 : bp ≠ b1 := by have := lt_get h_bp; omega
  have na_own_p_b1 := own_p.apart e1
  have ge_b1 : w.heap.size ≤ b1 := by have := hF.size; omega
  replace own_p := own_p.upd0 U1
  replace h_bp := U1.get0 h_bp
  replace hF := hF.go0 U1
  clear e1
  refine box_intro (cs := (Gs.fv f).toArray) (by rfl) (fun b2 w2 e2 h_b2 _ U2 => ?_)
  have ne_bp_b2 : bp ≠ b2 := by have := lt_get h_bp; omega
  have na_own_p_b2 := own_p.apart e2
  have ne_b1_b2 : b1 ≠ b2 := by have := lt_get h_b1; omega
  have ge_b2 : w.heap.size ≤ b2 := by have := hF.size; omega
  replace own_p := own_p.upd0 U2
  replace h_bp := U2.get0 h_bp
  replace h_b1 := U2.get0 h_b1
  replace hF := hF.go0 U2
  clear e2
  refine alloc_intro (cs := #[.slice none 0 0]) (by kernel_rfl) (fun b3 w3 e3 h_b3 _ U3 => ?_)
  have ne_bp_b3 : bp ≠ b3 := by have := lt_get h_bp; omega
  have na_own_p_b3 := own_p.apart e3
  have ne_b1_b3 : b1 ≠ b3 := by have := lt_get h_b1; omega
  have ne_b2_b3 : b2 ≠ b3 := by have := lt_get h_b2; omega
  have ge_b3 : w.heap.size ≤ b3 := by have := hF.size; omega
  replace own_p := own_p.upd0 U3
  replace h_bp := U3.get0 h_bp
  replace h_b1 := U3.get0 h_b1
  replace h_b2 := U3.get0 h_b2
  replace hF := hF.go0 U3
  clear e3
  refine join_cut (fun g w' => ∃ (D2 : Nat) (v5 : Value), (g 1000000 = mkV D2 undef) ∧ (w.heap.size ≤ D2) ∧ (w'.heap[D2]? = some (.deferred (some []))) ∧ (w'.heap[b3]? = some (.cells #[v5] 43 (0, 0))) ∧ (Own w.heap.size w' 5 1 v5 (vals .u8 (Gs.dataM cs f))) ∧ (Upd no w w')) (fun J1 hJ1 => ?_) (fun gJ1 wJ1 hI => ?_)
  · refine opv_run (ldC (by kernel_rfl) h_b1 (by rfl)) ?_
    refine opv_run (ldA (n := 3) (cs' := (Gs.fv f).toArray) (by kernel_rfl) h_b2 (by first | exact Nat.le_of_ble_eq_true rfl | (simp; done) | omega) (by rfl)) ?_
    refine callF_ex (c_field_Places h_bp own_p rfl (f := f)) (fun v4 w4 D4 => ?_)
    obtain ⟨b1_9, b2_9, rfl, g1_9, g2_9, h_b1_9, h_b2_9, U4⟩ := D4
    have ne_bp_b1_9 : bp ≠ b1_9 := by have := lt_get h_bp; omega
    have na_own_p_b1_9 : ∀ k, ownS _ k → k ≠ b1_9 := fun k hk => by have := (Own.ge own_p hk).2; omega
    have ne_b1_b1_9 : b1 ≠ b1_9 := by have := lt_get h_b1; omega
    have ne_b2_b1_9 : b2 ≠ b1_9 := by have := lt_get h_b2; omega
    have ne_b3_b1_9 : b3 ≠ b1_9 := by have := lt_get h_b3; omega
    have ge_b1_9 : w.heap.size ≤ b1_9 := by have := hF.size; omega
    have ne_bp_b2_9 : bp ≠ b2_9 := by have := lt_get h_bp; omega
    have na_own_p_b2_9 : ∀ k, ownS _ k → k ≠ b2_9 := fun k hk => by have := (Own.ge own_p hk).2; omega
    have ne_b1_b2_9 : b1 ≠ b2_9 := by have := lt_get h_b1; omega
    have ne_b2_b2_9 : b2 ≠ b2_9 := by have := lt_get h_b2; omega
    have ne_b3_b2_9 : b3 ≠ b2_9 := by have := lt_get h_b3; omega
    have ge_b2_9 : w.heap.size ≤ b2_9 := by have := hF.size; omega
    replace own_p := own_p.upd0 U4
    replace h_bp := U4.get0 h_bp
    replace h_b1 := U4.get0 h_b1
    replace h_b2 := U4.get0 h_b2
    replace h_b3 := U4.get0 h_b3
    replace hF := hF.go0 U4
    refine rangeF_i (by kernel_rfl) (fun w5 l2 D2 Rdy2 Bsy2 Dn2 y2 eD el h_D2 h_l2 lp1 lp2 lp3 sz5 U5 hY => ?_)
    have ne_bp_D2 : bp ≠ D2 := by have := lt_get h_bp; omega
    have ne_bp_l2 : bp ≠ l2 := by have := lt_get h_bp; omega
    have na_own_p_D2 : ∀ k, ownS _ k → k ≠ D2 := fun k hk => by have := (Own.ge own_p hk).2; omega
    have na_own_p_l2 : ∀ k, ownS _ k → k ≠ l2 := fun k hk => by have := (Own.ge own_p hk).2; omega
    have ne_b1_D2 : b1 ≠ D2 := by have := lt_get h_b1; omega
    have ne_b1_l2 : b1 ≠ l2 := by have := lt_get h_b1; omega
    have ne_b2_D2 : b2 ≠ D2 := by have := lt_get h_b2; omega
    have ne_b2_l2 : b2 ≠ l2 := by have := lt_get h_b2; omega
    have ne_b3_D2 : b3 ≠ D2 := by have := lt_get h_b3; omega
    have ne_b3_l2 : b3 ≠ l2 := by have := lt_get h_b3; omega
    have ne_b1_9_D2 : b1_9 ≠ D2 := by have := lt_get h_b1_9; omega
    have ne_b1_9_l2 : b1_9 ≠ l2 := by have := lt_get h_b1_9; omega
    have ne_b2_9_D2 : b2_9 ≠ D2 := by have := lt_get h_b2_9; omega
    have ne_b2_9_l2 : b2_9 ≠ l2 := by have := lt_get h_b2_9; omega
    have ge_D2 : w.heap.size ≤ D2 := by have := hF.size; omega
    have ge_l2 : w.heap.size ≤ l2 := by have := hF.size; omega
    have ne_D2_l2 : D2 ≠ l2 := by omega
    replace own_p := own_p.upd0 U5
    replace h_bp := U5.get0 h_bp
    replace h_b1 := U5.get0 h_b1
    replace h_b2 := U5.get0 h_b2
    replace h_b3 := U5.get0 h_b3
    replace h_b1_9 := U5.get0 h_b1_9
    replace h_b2_9 := U5.get0 h_b2_9
    replace hF := hF.go0 U5
    refine Calls.mono (c_field_Places_1 (b1 := b1_9) (b2 := b2_9) (J := (fun (k : Nat) (w' : World) => ∃ (v5 : Value), (w'.heap[b3]? = some (.cells #[v5] 43 (0, 0))) ∧ (Own w.heap.size w' 5 1 v5 (vals .u8 ((Gs.dataM cs f).take k))) ∧ (w'.heap[bp]? = some (.cells #[.int .i64 r, .int .i64 c, .slice A cs.length cp, .int .i64 cur] 102 (0, 0))) ∧ (Own B0 w' 45 5 (.slice A cs.length cp) (rows Gs.cv cs)) ∧ (w'.heap[b1]? = some (.cells #[.pointer (some ⟨bp, 0, none⟩)] 26 (0, 0))) ∧ (w'.heap[b1_9]? = some (.cells #[.pointer (some ⟨bp, 0, none⟩)] 26 (0, 0))) ∧ (w'.heap[b2_9]? = some (.cells (Gs.fv f).toArray 39 (0, 0))) ∧ (w'.heap[D2]? = some (.deferred (some []))) ∧ (w'.heap[l2]? = some Rdy2) ∧ (Upd no w w'))) (X := (fun _ => False)) (fun k w' hJ => by obtain ⟨v5, h_b3, own5, h_bp, own_p, h_b1, h_b1_9, h_b2_9, h_D2, h_l2, hF⟩ := hJ; exact ⟨h_b1_9, h_b2_9, h_bp, own_p⟩) (fun k w' w'' hJ U' => by obtain ⟨v5, h_b3, own5, h_bp, own_p, h_b1, h_b1_9, h_b2_9, h_D2, h_l2, hF⟩ := hJ; exact ⟨v5, U'.get0 h_b3, own5.upd0 U', U'.get0 h_bp, own_p.upd0 U', U'.get0 h_b1, U'.get0 h_b1_9, U'.get0 h_b2_9, U'.get0 h_D2, U'.get0 h_l2, hF.go0 U'⟩) (fun _ _ h _ => h.elim) (fun _ h => h.elim) rfl hN hb ?_ ?_) ?_
    · intro k wl2 xk hx hI
      obtain ⟨v5, h_b3, own5, h_bp, own_p, h_b1, h_b1_9, h_b2_9, h_D2, h_l2, hF⟩ := hI
      have hxb := Gs.places_get hx
      have hk := (List.getElem?_eq_some_iff.1 hx).1
      have hple := Gs.places_le cs.length f
      have hdl := Gs.data_len cs f
      refine hY [.int .i64 xk] _ _ rfl h_l2 ?_
      try simp only [List.getD_cons_zero, List.getD_cons_succ]
      refine midR_i h_l2 (fun w6 N6 _ U6 => ?_)
      replace own5 := own5.upd1 U6 (by first | assumption | exact Own.ne_blk own5 (by assumption) (by decide) | exact Own.not_loop own5 (by assumption) (by assumption) | exact Own.not_def own5 (by assumption) | exact Own.not_loop own5 (by assumption) (lp3 _))
      replace own_p := own_p.upd1 U6 na_own_p_l2
      replace h_b3 := U6.get1 h_b3 ne_b3_l2
      replace h_bp := U6.get1 h_bp ne_bp_l2
      replace h_b1 := U6.get1 h_b1 ne_b1_l2
      replace h_b1_9 := U6.get1 h_b1_9 ne_b1_9_l2
      replace h_b2_9 := U6.get1 h_b2_9 ne_b2_9_l2
      replace h_D2 := U6.get1 h_D2 ne_D2_l2
      replace h_l2 := N6
      replace hF := hF.go1 U6 ge_l2
      refine drawn_S (S := ownS (v5)) (fun w7 U7 => ?_)
      replace own5 := own5.upd0 U7
      replace own_p := own_p.upd0 U7
      replace h_b3 := U7.get0 h_b3
      replace h_bp := U7.get0 h_bp
      replace h_b1 := U7.get0 h_b1
      replace h_b1_9 := U7.get0 h_b1_9
      replace h_b2_9 := U7.get0 h_b2_9
      replace h_D2 := U7.get0 h_D2
      replace h_l2 := U7.get0 h_l2
      replace hF := hF.go0 U7
      refine qop_run (fun w' hw' => by have h_b3 := hw'.get h_b3 (fun h => by first | exact Own.ne_blk own5 h_b3 (by decide) _ h rfl | (have := Own.ge own5 h; omega)); exact (ldC (by kernel_rfl) h_b3 (by rfl))) ?_
      refine qop_run (fun w' hw' => by have h_b1 := hw'.get h_b1 (fun h => by first | exact Own.ne_blk own5 h_b1 (by decide) _ h rfl | (have := Own.ge own5 h; omega)); exact (ldC (by kernel_rfl) h_b1 (by rfl))) ?_
      refine qop_call (fun w' hw' => by have h_bp := hw'.get h_bp (fun h => by first | exact Own.ne_blk own5 h_bp (by decide) _ h rfl | (have := Own.ge own5 h; omega)); have own_p := own_p.updS hw' (fun k hk hs => by have := lt_own_p k hk; have := (Own.ge own5 hs).1; omega); exact c_Plane_At h_bp own_p rfl (i := xk)) ?_
      refine qop_run (fun w' hw' => (field_one (off := 0) (by kernel_rfl) (by rfl))) ?_
      refine ext_intro (fun w9 U9 => ?_)
      replace own5 := own5.upd0 U9
      replace own_p := own_p.upd0 U9
      replace h_b3 := U9.get0 h_b3
      replace h_bp := U9.get0 h_bp
      replace h_b1 := U9.get0 h_b1
      replace h_b1_9 := U9.get0 h_b1_9
      replace h_b2_9 := U9.get0 h_b2_9
      replace h_D2 := U9.get0 h_D2
      replace h_l2 := U9.get0 h_l2
      replace hF := hF.go0 U9
      refine lop_i ?_
      refine buildSlice_intro (e := 5) (m := 1) (z := #[.int .u8 0]) (by kernel_rfl) (by kernel_rfl) (by rfl) (by decide) (by first | (simp [fillL, splice, repL, Value.cells, Gs.cv, Gs.fv]; done) | (simp [fillL, splice, repL, Value.cells, Gs.cv, Gs.fv]; rfl)) (fun b10 w10 e10 h_b10 _ U10 => ?_)
      have ne_b3_b10 : b3 ≠ b10 := by have := lt_get h_b3; omega
      have na_own5_b10 := own5.apart e10
      have ne_bp_b10 : bp ≠ b10 := by have := lt_get h_bp; omega
      have na_own_p_b10 := own_p.apart e10
      have ne_b1_b10 : b1 ≠ b10 := by have := lt_get h_b1; omega
      have ne_b1_9_b10 : b1_9 ≠ b10 := by have := lt_get h_b1_9; omega
      have ne_b2_9_b10 : b2_9 ≠ b10 := by have := lt_get h_b2_9; omega
      have ne_D2_b10 : D2 ≠ b10 := by have := lt_get h_D2; omega
      have ne_l2_b10 : l2 ≠ b10 := by have := lt_get h_l2; omega
      have ge_b10 : w.heap.size ≤ b10 := by have := hF.size; omega
      replace own5 := own5.upd0 U10
      replace own_p := own_p.upd0 U10
      replace h_b3 := U10.get0 h_b3
      replace h_bp := U10.get0 h_bp
      replace h_b1 := U10.get0 h_b1
      replace h_b1_9 := U10.get0 h_b1_9
      replace h_b2_9 := U10.get0 h_b2_9
      replace h_D2 := U10.get0 h_D2
      replace h_l2 := U10.get0 h_l2
      replace hF := hF.go0 U10
      clear e10
      refine ⟨U10.any, ?_⟩
      refine ext_intro (fun w11 U11 => ?_)
      replace own5 := own5.upd0 U11
      replace own_p := own_p.upd0 U11
      replace h_b3 := U11.get0 h_b3
      replace h_bp := U11.get0 h_bp
      replace h_b1 := U11.get0 h_b1
      replace h_b1_9 := U11.get0 h_b1_9
      replace h_b2_9 := U11.get0 h_b2_9
      replace h_D2 := U11.get0 h_D2
      replace h_l2 := U11.get0 h_l2
      replace h_b10 := U11.get0 h_b10
      replace hF := hF.go0 U11
      refine lop_i ?_
      refine app_intro (e := 5) (size := 1) (bytes := 1) (by kernel_rfl) own5 (Rd.of_blockL h_b10) rfl (by first | (simp [Value.oneCell']; done) | (intro u hu; simp only [List.mem_singleton] at hu; subst hu; rfl) | (simp; intros; subst_vars; rfl)) (by simp only [vals_length, List.length_take, List.length_cons, List.length_nil, List.length_append, List.length_map, List.length_range]; omega) (by have := hF.size; omega) (fun v12 w12 N12 U12 => ?_)
      have own5_o := own5
      replace h_b3 := U12.get h_b3 (fun h => by first | (have := Own.ge own5_o h; omega) | exact Own.ne_blk own5_o h_b3 (by decide) _ h rfl | exact Own.not_loop own5_o h_b3 (by assumption) _ h rfl | exact Own.not_def own5_o h_b3 _ h rfl | simp_all)
      replace own5 := N12
      replace h_bp := U12.get h_bp (fun h => by first | (have := Own.ge own5_o h; omega) | exact Own.ne_blk own5_o h_bp (by decide) _ h rfl | exact Own.not_loop own5_o h_bp (by assumption) _ h rfl | exact Own.not_def own5_o h_bp _ h rfl | simp_all)
      replace own_p := own_p.updS U12 (fun k hk hs => by have := lt_own_p k hk; have := (Own.ge own5_o hs).1; omega)
      replace h_b1 := U12.get h_b1 (fun h => by first | (have := Own.ge own5_o h; omega) | exact Own.ne_blk own5_o h_b1 (by decide) _ h rfl | exact Own.not_loop own5_o h_b1 (by assumption) _ h rfl | exact Own.not_def own5_o h_b1 _ h rfl | simp_all)
      replace h_b1_9 := U12.get h_b1_9 (fun h => by first | (have := Own.ge own5_o h; omega) | exact Own.ne_blk own5_o h_b1_9 (by decide) _ h rfl | exact Own.not_loop own5_o h_b1_9 (by assumption) _ h rfl | exact Own.not_def own5_o h_b1_9 _ h rfl | simp_all)
      replace h_b2_9 := U12.get h_b2_9 (fun h => by first | (have := Own.ge own5_o h; omega) | exact Own.ne_blk own5_o h_b2_9 (by decide) _ h rfl | exact Own.not_loop own5_o h_b2_9 (by assumption) _ h rfl | exact Own.not_def own5_o h_b2_9 _ h rfl | simp_all)
      replace h_D2 := U12.get h_D2 (fun h => by first | (have := Own.ge own5_o h; omega) | exact Own.ne_blk own5_o h_D2 (by decide) _ h rfl | exact Own.not_loop own5_o h_D2 (by assumption) _ h rfl | exact Own.not_def own5_o h_D2 _ h rfl | simp_all)
      replace h_l2 := U12.get h_l2 (fun h => by first | (have := Own.ge own5_o h; omega) | exact Own.ne_blk own5_o h_l2 (by decide) _ h rfl | exact Own.not_loop own5_o h_l2 (by assumption) _ h rfl | exact Own.not_def own5_o h_l2 _ h rfl | simp_all)
      replace h_b10 := U12.get h_b10 (fun h => na_own5_b10 _ h rfl)
      replace hF := hF.go U12 (fun i h hs => by first | exact hs | exact .inl hs | exact .inr hs | (have := (Own.ge own5_o hs).1; omega))
      clear own5_o
      refine ⟨U12, ?_⟩
      refine ext_intro (fun w13 U13 => ?_)
      replace own5 := own5.upd0 U13
      replace own_p := own_p.upd0 U13
      replace h_b3 := U13.get0 h_b3
      replace h_bp := U13.get0 h_bp
      replace h_b1 := U13.get0 h_b1
      replace h_b1_9 := U13.get0 h_b1_9
      replace h_b2_9 := U13.get0 h_b2_9
      replace h_D2 := U13.get0 h_D2
      replace h_l2 := U13.get0 h_l2
      replace h_b10 := U13.get0 h_b10
      replace hF := hF.go0 U13
      refine store1_intro (by kernel_rfl) (Own.vone own5).1 (Own.vone own5).2 h_b3 (by first | exact Nat.le_of_ble_eq_true rfl | (simp; done) | omega | (simp [vals_length, *]; done) | (simp [vals_length, *]; omega)) (by first | (simp [vals_set]; rfl) | rfl) (fun w14 N14 _ U14 => ?_)
      replace own5 := own5.upd1 U14 (by first | assumption | exact Own.ne_blk own5 (by assumption) (by decide) | exact Own.not_loop own5 (by assumption) (by assumption) | exact Own.not_def own5 (by assumption) | exact Own.not_loop own5 (by assumption) (lp3 _))
      replace own_p := own_p.upd1 U14 na_own_p_b3
      replace h_bp := U14.get1 h_bp ne_bp_b3
      replace h_b1 := U14.get1 h_b1 ne_b1_b3
      replace h_b1_9 := U14.get1 h_b1_9 (Ne.symm ne_b3_b1_9)
      replace h_b2_9 := U14.get1 h_b2_9 (Ne.symm ne_b3_b2_9)
      replace h_D2 := U14.get1 h_D2 (Ne.symm ne_b3_D2)
      replace h_l2 := U14.get1 h_l2 (Ne.symm ne_b3_l2)
      replace h_b10 := U14.get1 h_b10 (Ne.symm ne_b3_b10)
      replace h_b3 := N14
      replace hF := hF.go1 U14 ge_b3
      refine ext_intro (fun w15 U15 => ?_)
      replace own5 := own5.upd0 U15
      replace own_p := own_p.upd0 U15
      replace h_b3 := U15.get0 h_b3
      replace h_bp := U15.get0 h_bp
      replace h_b1 := U15.get0 h_b1
      replace h_b1_9 := U15.get0 h_b1_9
      replace h_b2_9 := U15.get0 h_b2_9
      replace h_D2 := U15.get0 h_D2
      replace h_l2 := U15.get0 h_l2
      replace h_b10 := U15.get0 h_b10
      replace hF := hF.go0 U15
      refine finN h_l2 (fun w16 N16 _ U16 => ?_)
      replace own5 := own5.upd1 U16 (by first | assumption | exact Own.ne_blk own5 (by assumption) (by decide) | exact Own.not_loop own5 (by assumption) (by assumption) | exact Own.not_def own5 (by assumption) | exact Own.not_loop own5 (by assumption) (lp3 _))
      replace own_p := own_p.upd1 U16 na_own_p_l2
      replace h_b3 := U16.get1 h_b3 ne_b3_l2
      replace h_bp := U16.get1 h_bp ne_bp_l2
      replace h_b1 := U16.get1 h_b1 ne_b1_l2
      replace h_b1_9 := U16.get1 h_b1_9 ne_b1_9_l2
      replace h_b2_9 := U16.get1 h_b2_9 ne_b2_9_l2
      replace h_D2 := U16.get1 h_D2 ne_D2_l2
      replace h_b10 := U16.get1 h_b10 (Ne.symm ne_l2_b10)
      replace h_l2 := N16
      replace hF := hF.go1 U16 ge_l2
      exact ⟨_, h_b3, (by rw [← Gs.data_step hx]; exact own_snoc own5), h_bp, own_p, h_b1, h_b1_9, h_b2_9, h_D2, h_l2, hF⟩
    · exact ⟨_, h_b3, (Own.nil _ _ _ _), h_bp, own_p, h_b1, h_b1_9, h_b2_9, h_D2, h_l2, hF⟩
    rintro e wE2 ⟨hv, hI | hI⟩
    · obtain ⟨v5, h_b3, own5, h_bp, own_p, h_b1, h_b1_9, h_b2_9, h_D2, h_l2, hF⟩ := hI
      refine ⟨hv, .inl ⟨h_l2, fun w17 _ U17 => ?_⟩⟩
      replace own5 := own5.upd1 U17 (by first | assumption | exact Own.ne_blk own5 (by assumption) (by decide) | exact Own.not_loop own5 (by assumption) (by assumption) | exact Own.not_def own5 (by assumption) | exact Own.not_loop own5 (by assumption) (lp3 _))
      replace own_p := own_p.upd1 U17 na_own_p_l2
      replace h_b3 := U17.get1 h_b3 ne_b3_l2
      replace h_bp := U17.get1 h_bp ne_bp_l2
      replace h_b1 := U17.get1 h_b1 ne_b1_l2
      replace h_b1_9 := U17.get1 h_b1_9 ne_b1_9_l2
      replace h_b2_9 := U17.get1 h_b2_9 ne_b2_9_l2
      replace h_D2 := U17.get1 h_D2 ne_D2_l2
      replace hF := hF.go1 U17 ge_l2
      refine hJ1 _ _ ?_
      exact ⟨_, _, (by first | exact g1000000 | rfl), ge_D2, h_D2, h_b3, (by rw [List.take_of_length_le (by rw [Gs.data_len]; exact Nat.le_refl _)] at own5; exact own5), hF⟩
    · exact hI.elim
  · obtain ⟨D2, v5, g1000000, ge_D2, h_D2, h_b3, own5, hF⟩ := hI
    try rw [g1000000]
    refine opv_run (ldC (by kernel_rfl) h_b3 (by rfl)) ?_
    refine leave1 h_D2 (fun w19 _ U19 => ?_)
    replace own5 := own5.upd1 U19 (by first | assumption | exact Own.ne_blk own5 (by assumption) (by decide) | exact Own.not_loop own5 (by assumption) (by assumption) | exact Own.not_def own5 (by assumption) | exact Own.not_loop own5 (by assumption) (lp3 _))
    replace h_b3 := U19.get1 h_b3 (by first | omega | exact blk_ne (by assumption) (by assumption) (by decide) | exact blk_not_loop (by assumption) (by assumption) (by assumption) | exact Ne.symm (blk_not_loop (by assumption) (by assumption) (by assumption)) | exact blk_not_def (by assumption) (by assumption) | exact Ne.symm (blk_not_def (by assumption) (by assumption)) | exact def_ne_blk (by assumption) (by assumption) | exact Ne.symm (def_ne_blk (by assumption) (by assumption)))
    replace hF := hF.go1 U19 ge_D2
    exact ⟨_, rfl, own5, hF⟩

/-- greenscreen/greenscreenlaw15.places -/
theorem c_law15_places {r c cur : Int} {A : Option Addr} {n cp bp B0 : Nat} {cs : List Gs.Cell} {w : World} (h_bp : w.heap[bp]? = some (.cells #[.int .i64 r, .int .i64 c, .slice A n cp, .int .i64 cur] 102 (0, 0))) (own_p : Own B0 w 45 5 (.slice A n cp) (rows Gs.cv cs)) (hn : n = cs.length) {f : Gs.Fld} {m : Int} (hN : Gs.cellsN r c = n) (hb : n ≤ 4096) (hm : 1 ≤ m) :
    Calls Try.prog 17 #[.pointer (some ⟨bp, 0, none⟩), .agg (Gs.fv f).toArray, .int .i64 m] w fun e w' => ∃ v, e = .returned v ∧ Own w.heap.size w' 3 1 v (vals .i64 ((Gs.placesL n f).take m.toNat)) ∧ Upd no w w' := by
  refine F17.calls ?_
  unfold F17
  subst hn
  have lt_h_bp := lt_get h_bp
  have lt_own_p := Own.lt own_p
  have hF : Upd no w w := Fr.refl _ _ _
  refine box_intro (cs := (Gs.fv f).toArray) (by rfl) (fun b1 w1 e1 h_b1 _ U1 => ?_)
  have ne_bp_b1 : bp ≠ b1 := by have := lt_get h_bp; omega
  have na_own_p_b1 := own_p.apart e1
  have ge_b1 : w.heap.size ≤ b1 := by have := hF.size; omega
  replace own_p := own_p.upd0 U1
  replace h_bp := U1.get0 h_bp
  replace hF := hF.go0 U1
  clear e1
  refine box_intro (by rfl) (fun b2 w2 e2 h_b2 _ U2 => ?_)
  have ne_bp_b2 : bp ≠ b2 := by have := lt_get h_bp; omega
  have na_own_p_b2 := own_p.apart e2
  have ne_b1_b2 : b1 ≠ b2 := by have := lt_get h_b1; omega
  have ge_b2 : w.heap.size ≤ b2 := by have := hF.size; omega
  replace own_p := own_p.upd0 U2
  replace h_bp := U2.get0 h_bp
  replace h_b1 := U2.get0 h_b1
  replace hF := hF.go0 U2
  clear e2
  refine buildSlice_intro (e := 3) (m := 1) (z := #[.int .i64 0]) (by kernel_rfl) (by kernel_rfl) (by rfl) (by decide) (by first | (simp [fillL, splice, repL, Value.cells, Gs.cv, Gs.fv]; done) | (simp [fillL, splice, repL, Value.cells, Gs.cv, Gs.fv]; rfl)) (fun b3 w3 e3 h_b3 _ U3 => ?_)
  have ne_bp_b3 : bp ≠ b3 := by have := lt_get h_bp; omega
  have na_own_p_b3 := own_p.apart e3
  have ne_b1_b3 : b1 ≠ b3 := by have := lt_get h_b1; omega
  have ne_b2_b3 : b2 ≠ b3 := by have := lt_get h_b2; omega
  have ge_b3 : w.heap.size ≤ b3 := by have := hF.size; omega
  replace own_p := own_p.upd0 U3
  replace h_bp := U3.get0 h_bp
  replace h_b1 := U3.get0 h_b1
  replace h_b2 := U3.get0 h_b2
  replace hF := hF.go0 U3
  clear e3
  refine alloc_intro (cs := #[.slice none 0 0]) (by kernel_rfl) (fun b4 w4 e4 h_b4 _ U4 => ?_)
  have ne_bp_b4 : bp ≠ b4 := by have := lt_get h_bp; omega
  have na_own_p_b4 := own_p.apart e4
  have ne_b1_b4 : b1 ≠ b4 := by have := lt_get h_b1; omega
  have ne_b2_b4 : b2 ≠ b4 := by have := lt_get h_b2; omega
  have ne_b3_b4 : b3 ≠ b4 := by have := lt_get h_b3; omega
  have ge_b4 : w.heap.size ≤ b4 := by have := hF.size; omega
  replace own_p := own_p.upd0 U4
  replace h_bp := U4.get0 h_bp
  replace h_b1 := U4.get0 h_b1
  replace h_b2 := U4.get0 h_b2
  replace h_b3 := U4.get0 h_b3
  replace hF := hF.go0 U4
  clear e4
  refine store1_intro (by kernel_rfl) rfl rfl h_b4 (by first | exact Nat.le_of_ble_eq_true rfl | (simp; done) | omega | (simp [vals_length, *]; done) | (simp [vals_length, *]; omega)) (by first | (simp [vals_set]; rfl) | rfl) (fun w5 N5 _ U5 => ?_)
  replace own_p := own_p.upd1 U5 na_own_p_b4
  replace h_bp := U5.get1 h_bp ne_bp_b4
  replace h_b1 := U5.get1 h_b1 ne_b1_b4
  replace h_b2 := U5.get1 h_b2 ne_b2_b4
  replace h_b3 := U5.get1 h_b3 ne_b3_b4
  replace h_b4 := N5
  replace hF := hF.go1 U5 ge_b4
  refine join_cut (fun g w' => ∃ (D2 : Nat) (v7 : Value), (g 1000000 = mkV D2 undef) ∧ (w.heap.size ≤ D2) ∧ (w'.heap[D2]? = some (.deferred (some []))) ∧ (w'.heap[b4]? = some (.cells #[v7] 41 (0, 0))) ∧ (Own w.heap.size w' 3 1 v7 (vals .i64 ((Gs.placesL cs.length f).take m.toNat))) ∧ (Upd no w w')) (fun J1 hJ1 => ?_) (fun gJ1 wJ1 hI => ?_)
  · refine opv_run (ldA (n := 3) (cs' := (Gs.fv f).toArray) (by kernel_rfl) h_b1 (by first | exact Nat.le_of_ble_eq_true rfl | (simp; done) | omega) (by rfl)) ?_
    refine callF_ex (c_field_Places h_bp own_p rfl (f := f)) (fun v6 w6 D6 => ?_)
    obtain ⟨b1_12, b2_12, rfl, g1_12, g2_12, h_b1_12, h_b2_12, U6⟩ := D6
    have ne_bp_b1_12 : bp ≠ b1_12 := by have := lt_get h_bp; omega
    have na_own_p_b1_12 : ∀ k, ownS _ k → k ≠ b1_12 := fun k hk => by have := (Own.ge own_p hk).2; omega
    have ne_b1_b1_12 : b1 ≠ b1_12 := by have := lt_get h_b1; omega
    have ne_b2_b1_12 : b2 ≠ b1_12 := by have := lt_get h_b2; omega
    have ne_b3_b1_12 : b3 ≠ b1_12 := by have := lt_get h_b3; omega
    have ne_b4_b1_12 : b4 ≠ b1_12 := by have := lt_get h_b4; omega
    have ge_b1_12 : w.heap.size ≤ b1_12 := by have := hF.size; omega
    have ne_bp_b2_12 : bp ≠ b2_12 := by have := lt_get h_bp; omega
    have na_own_p_b2_12 : ∀ k, ownS _ k → k ≠ b2_12 := fun k hk => by have := (Own.ge own_p hk).2; omega
    have ne_b1_b2_12 : b1 ≠ b2_12 := by have := lt_get h_b1; omega
    have ne_b2_b2_12 : b2 ≠ b2_12 := by have := lt_get h_b2; omega
    have ne_b3_b2_12 : b3 ≠ b2_12 := by have := lt_get h_b3; omega
    have ne_b4_b2_12 : b4 ≠ b2_12 := by have := lt_get h_b4; omega
    have ge_b2_12 : w.heap.size ≤ b2_12 := by have := hF.size; omega
    replace own_p := own_p.upd0 U6
    replace h_bp := U6.get0 h_bp
    replace h_b1 := U6.get0 h_b1
    replace h_b2 := U6.get0 h_b2
    replace h_b3 := U6.get0 h_b3
    replace h_b4 := U6.get0 h_b4
    replace hF := hF.go0 U6
    refine rangeF_i (by kernel_rfl) (fun w7 l2 D2 Rdy2 Bsy2 Dn2 y2 eD el h_D2 h_l2 lp1 lp2 lp3 sz7 U7 hY => ?_)
    have ne_bp_D2 : bp ≠ D2 := by have := lt_get h_bp; omega
    have ne_bp_l2 : bp ≠ l2 := by have := lt_get h_bp; omega
    have na_own_p_D2 : ∀ k, ownS _ k → k ≠ D2 := fun k hk => by have := (Own.ge own_p hk).2; omega
    have na_own_p_l2 : ∀ k, ownS _ k → k ≠ l2 := fun k hk => by have := (Own.ge own_p hk).2; omega
    have ne_b1_D2 : b1 ≠ D2 := by have := lt_get h_b1; omega
    have ne_b1_l2 : b1 ≠ l2 := by have := lt_get h_b1; omega
    have ne_b2_D2 : b2 ≠ D2 := by have := lt_get h_b2; omega
    have ne_b2_l2 : b2 ≠ l2 := by have := lt_get h_b2; omega
    have ne_b3_D2 : b3 ≠ D2 := by have := lt_get h_b3; omega
    have ne_b3_l2 : b3 ≠ l2 := by have := lt_get h_b3; omega
    have ne_b4_D2 : b4 ≠ D2 := by have := lt_get h_b4; omega
    have ne_b4_l2 : b4 ≠ l2 := by have := lt_get h_b4; omega
    have ne_b1_12_D2 : b1_12 ≠ D2 := by have := lt_get h_b1_12; omega
    have ne_b1_12_l2 : b1_12 ≠ l2 := by have := lt_get h_b1_12; omega
    have ne_b2_12_D2 : b2_12 ≠ D2 := by have := lt_get h_b2_12; omega
    have ne_b2_12_l2 : b2_12 ≠ l2 := by have := lt_get h_b2_12; omega
    have ge_D2 : w.heap.size ≤ D2 := by have := hF.size; omega
    have ge_l2 : w.heap.size ≤ l2 := by have := hF.size; omega
    have ne_D2_l2 : D2 ≠ l2 := by omega
    replace own_p := own_p.upd0 U7
    replace h_bp := U7.get0 h_bp
    replace h_b1 := U7.get0 h_b1
    replace h_b2 := U7.get0 h_b2
    replace h_b3 := U7.get0 h_b3
    replace h_b4 := U7.get0 h_b4
    replace h_b1_12 := U7.get0 h_b1_12
    replace h_b2_12 := U7.get0 h_b2_12
    replace hF := hF.go0 U7
    refine Calls.mono (c_field_Places_1 (b1 := b1_12) (b2 := b2_12) (J := (fun (k : Nat) (w' : World) => ∃ (v7 : Value), (w'.heap[b4]? = some (.cells #[v7] 41 (0, 0))) ∧ (Own w.heap.size w' 3 1 v7 (vals .i64 ((Gs.placesL cs.length f).take k))) ∧ ((k : Int) < m) ∧ (¬ ownS v7 b2) ∧ (w'.heap[bp]? = some (.cells #[.int .i64 r, .int .i64 c, .slice A cs.length cp, .int .i64 cur] 102 (0, 0))) ∧ (Own B0 w' 45 5 (.slice A cs.length cp) (rows Gs.cv cs)) ∧ (w'.heap[b1_12]? = some (.cells #[.pointer (some ⟨bp, 0, none⟩)] 26 (0, 0))) ∧ (w'.heap[b2_12]? = some (.cells (Gs.fv f).toArray 39 (0, 0))) ∧ (w'.heap[b2]? = some (.cells #[.int .i64 m] 3 (0, 0))) ∧ (w'.heap[D2]? = some (.deferred (some []))) ∧ (w'.heap[l2]? = some Rdy2) ∧ (Upd no w w'))) (X := (fun (w' : World) => ∃ v7 : Value, (w'.heap[l2]? = some (Dn2 1)) ∧ (w'.heap[b4]? = some (.cells #[v7] 41 (0, 0))) ∧ (Own w.heap.size w' 3 1 v7 (vals .i64 ((Gs.placesL cs.length f).take m.toNat))) ∧ (w'.heap[bp]? = some (.cells #[.int .i64 r, .int .i64 c, .slice A cs.length cp, .int .i64 cur] 102 (0, 0))) ∧ (Own B0 w' 45 5 (.slice A cs.length cp) (rows Gs.cv cs)) ∧ (w'.heap[b1_12]? = some (.cells #[.pointer (some ⟨bp, 0, none⟩)] 26 (0, 0))) ∧ (w'.heap[b2_12]? = some (.cells (Gs.fv f).toArray 39 (0, 0))) ∧ (w'.heap[D2]? = some (.deferred (some []))) ∧ (Upd no w w'))) (fun k w' hJ => by obtain ⟨v7, h_b4, own7, hkm, hs5, h_bp, own_p, h_b1_12, h_b2_12, h_b2, h_D2, h_l2, hF⟩ := hJ; exact ⟨h_b1_12, h_b2_12, h_bp, own_p⟩) (fun k w' w'' hJ U' => by obtain ⟨v7, h_b4, own7, hkm, hs5, h_bp, own_p, h_b1_12, h_b2_12, h_b2, h_D2, h_l2, hF⟩ := hJ; exact ⟨v7, U'.get0 h_b4, own7.upd0 U', hkm, hs5, U'.get0 h_bp, own_p.upd0 U', U'.get0 h_b1_12, U'.get0 h_b2_12, U'.get0 h_b2, U'.get0 h_D2, U'.get0 h_l2, hF.go0 U'⟩) (fun w' w'' hX U' => by obtain ⟨v7, h_x, h_b4, own7, h_bp, own_p, h_b1_12, h_b2_12, h_D2, hF⟩ := hX; exact ⟨v7, U'.get0 h_x, U'.get0 h_b4, own7.upd0 U', U'.get0 h_bp, own_p.upd0 U', U'.get0 h_b1_12, U'.get0 h_b2_12, U'.get0 h_D2, hF.go0 U'⟩) (fun w' hX => by obtain ⟨v7, h_x, h_b4, own7, h_bp, own_p, h_b1_12, h_b2_12, h_D2, hF⟩ := hX; exact ⟨h_b1_12, h_b2_12, h_bp, own_p⟩) rfl hN hb ?_ ?_) ?_
    · intro k wl2 xk hx hI
      obtain ⟨v7, h_b4, own7, hkm, hs5, h_bp, own_p, h_b1_12, h_b2_12, h_b2, h_D2, h_l2, hF⟩ := hI
      have hxb := Gs.places_get hx
      have hk := (List.getElem?_eq_some_iff.1 hx).1
      have hple := Gs.places_le cs.length f
      refine hY [.int .i64 xk] _ _ rfl h_l2 ?_
      try simp only [List.getD_cons_zero, List.getD_cons_succ]
      refine midR_i h_l2 (fun w8 N8 _ U8 => ?_)
      replace own7 := own7.upd1 U8 (by first | assumption | exact Own.ne_blk own7 (by assumption) (by decide) | exact Own.not_loop own7 (by assumption) (by assumption) | exact Own.not_def own7 (by assumption) | exact Own.not_loop own7 (by assumption) (lp3 _))
      replace own_p := own_p.upd1 U8 na_own_p_l2
      replace h_b4 := U8.get1 h_b4 ne_b4_l2
      replace h_bp := U8.get1 h_bp ne_bp_l2
      replace h_b1_12 := U8.get1 h_b1_12 ne_b1_12_l2
      replace h_b2_12 := U8.get1 h_b2_12 ne_b2_12_l2
      replace h_b2 := U8.get1 h_b2 ne_b2_l2
      replace h_D2 := U8.get1 h_D2 ne_D2_l2
      replace h_l2 := N8
      replace hF := hF.go1 U8 ge_l2
      refine opv_run (ldC (by kernel_rfl) h_b4 (by rfl)) ?_
      refine buildSlice_intro (e := 3) (m := 1) (z := #[.int .i64 0]) (by kernel_rfl) (by kernel_rfl) (by rfl) (by decide) (by first | (simp [fillL, splice, repL, Value.cells, Gs.cv, Gs.fv]; done) | (simp [fillL, splice, repL, Value.cells, Gs.cv, Gs.fv]; rfl)) (fun b9 w9 e9 h_b9 _ U9 => ?_)
      have ne_b4_b9 : b4 ≠ b9 := by have := lt_get h_b4; omega
      have na_own7_b9 := own7.apart e9
      have ne_bp_b9 : bp ≠ b9 := by have := lt_get h_bp; omega
      have na_own_p_b9 := own_p.apart e9
      have ne_b1_12_b9 : b1_12 ≠ b9 := by have := lt_get h_b1_12; omega
      have ne_b2_12_b9 : b2_12 ≠ b9 := by have := lt_get h_b2_12; omega
      have ne_b2_b9 : b2 ≠ b9 := by have := lt_get h_b2; omega
      have ne_D2_b9 : D2 ≠ b9 := by have := lt_get h_D2; omega
      have ne_l2_b9 : l2 ≠ b9 := by have := lt_get h_l2; omega
      have ge_b9 : w.heap.size ≤ b9 := by have := hF.size; omega
      replace own7 := own7.upd0 U9
      replace own_p := own_p.upd0 U9
      replace h_b4 := U9.get0 h_b4
      replace h_bp := U9.get0 h_bp
      replace h_b1_12 := U9.get0 h_b1_12
      replace h_b2_12 := U9.get0 h_b2_12
      replace h_b2 := U9.get0 h_b2
      replace h_D2 := U9.get0 h_D2
      replace h_l2 := U9.get0 h_l2
      replace hF := hF.go0 U9
      clear e9
      refine app_introA (e := 3) (size := 1) (bytes := 8) (by kernel_rfl) own7 (Rd.of_blockL h_b9) rfl (by first | (simp [Value.oneCell']; done) | (intro u hu; simp only [List.mem_singleton] at hu; subst hu; rfl) | (simp; intros; subst_vars; rfl)) (by simp only [vals_length, List.length_take, List.length_cons, List.length_nil, List.length_append, List.length_map, List.length_range]; omega) (by have := hF.size; omega) (fun v10 w10 N10 hA10 U10 => ?_)
      have own7_o := own7
      have nb10_h_b2 := ap_blk (S' := w9) hs5 h_b2 hA10
      replace h_b4 := U10.get h_b4 (fun h => by first | (have := Own.ge own7_o h; omega) | exact Own.ne_blk own7_o h_b4 (by decide) _ h rfl | exact Own.not_loop own7_o h_b4 (by assumption) _ h rfl | exact Own.not_def own7_o h_b4 _ h rfl | simp_all)
      replace own7 := N10
      replace h_bp := U10.get h_bp (fun h => by first | (have := Own.ge own7_o h; omega) | exact Own.ne_blk own7_o h_bp (by decide) _ h rfl | exact Own.not_loop own7_o h_bp (by assumption) _ h rfl | exact Own.not_def own7_o h_bp _ h rfl | simp_all)
      replace own_p := own_p.updS U10 (fun k hk hs => by have := lt_own_p k hk; have := (Own.ge own7_o hs).1; omega)
      replace h_b1_12 := U10.get h_b1_12 (fun h => by first | (have := Own.ge own7_o h; omega) | exact Own.ne_blk own7_o h_b1_12 (by decide) _ h rfl | exact Own.not_loop own7_o h_b1_12 (by assumption) _ h rfl | exact Own.not_def own7_o h_b1_12 _ h rfl | simp_all)
      replace h_b2_12 := U10.get h_b2_12 (fun h => by first | (have := Own.ge own7_o h; omega) | exact Own.ne_blk own7_o h_b2_12 (by decide) _ h rfl | exact Own.not_loop own7_o h_b2_12 (by assumption) _ h rfl | exact Own.not_def own7_o h_b2_12 _ h rfl | simp_all)
      replace h_b2 := U10.get h_b2 hs5
      replace h_D2 := U10.get h_D2 (fun h => by first | (have := Own.ge own7_o h; omega) | exact Own.ne_blk own7_o h_D2 (by decide) _ h rfl | exact Own.not_loop own7_o h_D2 (by assumption) _ h rfl | exact Own.not_def own7_o h_D2 _ h rfl | simp_all)
      replace h_l2 := U10.get h_l2 (fun h => by first | (have := Own.ge own7_o h; omega) | exact Own.ne_blk own7_o h_l2 (by decide) _ h rfl | exact Own.not_loop own7_o h_l2 (by assumption) _ h rfl | exact Own.not_def own7_o h_l2 _ h rfl | simp_all)
      replace h_b9 := U10.get h_b9 (fun h => na_own7_b9 _ h rfl)
      replace hF := hF.go U10 (fun i h hs => by first | exact hs | exact .inl hs | exact .inr hs | (have := (Own.ge own7_o hs).1; omega))
      clear own7_o
      refine store1_intro (by kernel_rfl) (Own.vone own7).1 (Own.vone own7).2 h_b4 (by first | exact Nat.le_of_ble_eq_true rfl | (simp; done) | omega | (simp [vals_length, *]; done) | (simp [vals_length, *]; omega)) (by first | (simp [vals_set]; rfl) | rfl) (fun w11 N11 _ U11 => ?_)
      replace own7 := own7.upd1 U11 (by first | assumption | exact Own.ne_blk own7 (by assumption) (by decide) | exact Own.not_loop own7 (by assumption) (by assumption) | exact Own.not_def own7 (by assumption) | exact Own.not_loop own7 (by assumption) (lp3 _))
      replace own_p := own_p.upd1 U11 na_own_p_b4
      replace h_bp := U11.get1 h_bp ne_bp_b4
      replace h_b1_12 := U11.get1 h_b1_12 (Ne.symm ne_b4_b1_12)
      replace h_b2_12 := U11.get1 h_b2_12 (Ne.symm ne_b4_b2_12)
      replace h_b2 := U11.get1 h_b2 ne_b2_b4
      replace h_D2 := U11.get1 h_D2 (Ne.symm ne_b4_D2)
      replace h_l2 := U11.get1 h_l2 (Ne.symm ne_b4_l2)
      replace h_b9 := U11.get1 h_b9 (Ne.symm ne_b4_b9)
      replace h_b4 := N11
      replace hF := hF.go1 U11 ge_b4
      refine opv_run (ldC (by kernel_rfl) h_b4 (by rfl)) ?_
      obtain ⟨A12, c12, rfl, _⟩ := (own_snoc own7).rd1
      refine opv_run (len_sl (by kernel_rfl) _ _ _) ?_
      rw [show (((Gs.placesL cs.length f).take k ++ [xk]).length : Nat) = k + 1 by simp only [List.length_append, List.length_take, List.length_cons, List.length_nil]; omega]
      refine opv_run (ldC (by kernel_rfl) h_b2 (by rfl)) ?_
      refine opv_dec (eqI _ _ _ _ _) (fun h13 => ?_) (fun h13 => ?_)
      · refine condt ?_
        refine finE h_l2 (fun w14 N14 _ U14 => ?_)
        replace own7 := own7.upd1 U14 (by first | assumption | exact Own.ne_blk own7 (by assumption) (by decide) | exact Own.not_loop own7 (by assumption) (by assumption) | exact Own.not_def own7 (by assumption) | exact Own.not_loop own7 (by assumption) (lp3 _))
        replace own_p := own_p.upd1 U14 na_own_p_l2
        replace h_b4 := U14.get1 h_b4 ne_b4_l2
        replace h_bp := U14.get1 h_bp ne_bp_l2
        replace h_b1_12 := U14.get1 h_b1_12 ne_b1_12_l2
        replace h_b2_12 := U14.get1 h_b2_12 ne_b2_12_l2
        replace h_b2 := U14.get1 h_b2 ne_b2_l2
        replace h_D2 := U14.get1 h_D2 ne_D2_l2
        replace h_b9 := U14.get1 h_b9 (Ne.symm ne_l2_b9)
        replace h_l2 := N14
        replace hF := hF.go1 U14 ge_l2
        exact ⟨_, h_l2, h_b4, (by rw [show m.toNat = k + 1 by omega, ← Gs.take_step hx]; exact own_snoc own7), h_bp, own_p, h_b1_12, h_b2_12, h_D2, hF⟩
      · refine condf ?_
        refine finN h_l2 (fun w15 N15 _ U15 => ?_)
        replace own7 := own7.upd1 U15 (by first | assumption | exact Own.ne_blk own7 (by assumption) (by decide) | exact Own.not_loop own7 (by assumption) (by assumption) | exact Own.not_def own7 (by assumption) | exact Own.not_loop own7 (by assumption) (lp3 _))
        replace own_p := own_p.upd1 U15 na_own_p_l2
        replace h_b4 := U15.get1 h_b4 ne_b4_l2
        replace h_bp := U15.get1 h_bp ne_bp_l2
        replace h_b1_12 := U15.get1 h_b1_12 ne_b1_12_l2
        replace h_b2_12 := U15.get1 h_b2_12 ne_b2_12_l2
        replace h_b2 := U15.get1 h_b2 ne_b2_l2
        replace h_D2 := U15.get1 h_D2 ne_D2_l2
        replace h_b9 := U15.get1 h_b9 (Ne.symm ne_l2_b9)
        replace h_l2 := N15
        replace hF := hF.go1 U15 ge_l2
        exact ⟨_, h_b4, (by rw [← Gs.take_step hx]; exact own_snoc own7), (by omega), (by assumption), h_bp, own_p, h_b1_12, h_b2_12, h_b2, h_D2, h_l2, hF⟩
    · exact ⟨_, h_b4, (Own.of_block (n := 0) h_b3 ge_b3 rfl (by decide)), (by omega), (fun h => absurd (Option.some.inj h) ne_b2_b3), h_bp, own_p, h_b1_12, h_b2_12, h_b2, h_D2, h_l2, hF⟩
    rintro e wE2 ⟨hv, hI | hI⟩
    · obtain ⟨v7, h_b4, own7, hkm, hs5, h_bp, own_p, h_b1_12, h_b2_12, h_b2, h_D2, h_l2, hF⟩ := hI
      refine ⟨hv, .inl ⟨h_l2, fun w16 _ U16 => ?_⟩⟩
      replace own7 := own7.upd1 U16 (by first | assumption | exact Own.ne_blk own7 (by assumption) (by decide) | exact Own.not_loop own7 (by assumption) (by assumption) | exact Own.not_def own7 (by assumption) | exact Own.not_loop own7 (by assumption) (lp3 _))
      replace own_p := own_p.upd1 U16 na_own_p_l2
      replace h_b4 := U16.get1 h_b4 ne_b4_l2
      replace h_bp := U16.get1 h_bp ne_bp_l2
      replace h_b1_12 := U16.get1 h_b1_12 ne_b1_12_l2
      replace h_b2_12 := U16.get1 h_b2_12 ne_b2_12_l2
      replace h_b2 := U16.get1 h_b2 ne_b2_l2
      replace h_D2 := U16.get1 h_D2 ne_D2_l2
      replace hF := hF.go1 U16 ge_l2
      refine hJ1 _ _ ?_
      exact ⟨_, _, (by first | exact g1000000 | rfl), ge_D2, h_D2, h_b4, (by first | exact own7 | (rw [List.take_of_length_le (Nat.le_refl _)] at own7; rw [List.take_of_length_le (by omega)]; exact own7)), hF⟩
    · obtain ⟨v7, h_x, h_b4, own7, h_bp, own_p, h_b1_12, h_b2_12, h_D2, hF⟩ := hI
      refine ⟨hv, .inr ⟨1, _, List.mem_singleton.2 rfl, h_x, fun w17 _ U17 => ?_⟩⟩
      replace own7 := own7.upd1 U17 (by first | assumption | exact Own.ne_blk own7 (by assumption) (by decide) | exact Own.not_loop own7 (by assumption) (by assumption) | exact Own.not_def own7 (by assumption) | exact Own.not_loop own7 (by assumption) (lp3 _))
      replace own_p := own_p.upd1 U17 na_own_p_l2
      replace h_b4 := U17.get1 h_b4 ne_b4_l2
      replace h_bp := U17.get1 h_bp ne_bp_l2
      replace h_b1_12 := U17.get1 h_b1_12 ne_b1_12_l2
      replace h_b2_12 := U17.get1 h_b2_12 ne_b2_12_l2
      replace h_D2 := U17.get1 h_D2 ne_D2_l2
      replace hF := hF.go1 U17 ge_l2
      refine hJ1 _ _ ?_
      exact ⟨_, _, (by first | exact g1000000 | rfl), ge_D2, h_D2, h_b4, (by first | exact own7 | (rw [List.take_of_length_le (Nat.le_refl _)] at own7; rw [List.take_of_length_le (by omega)]; exact own7)), hF⟩
  · obtain ⟨D2, v7, g1000000, ge_D2, h_D2, h_b4, own7, hF⟩ := hI
    try rw [g1000000]
    refine opv_run (ldC (by kernel_rfl) h_b4 (by rfl)) ?_
    refine leave1 h_D2 (fun w19 _ U19 => ?_)
    replace own7 := own7.upd1 U19 (by first | assumption | exact Own.ne_blk own7 (by assumption) (by decide) | exact Own.not_loop own7 (by assumption) (by assumption) | exact Own.not_def own7 (by assumption) | exact Own.not_loop own7 (by assumption) (lp3 _))
    replace h_b4 := U19.get1 h_b4 (by first | omega | exact blk_ne (by assumption) (by assumption) (by decide) | exact blk_not_loop (by assumption) (by assumption) (by assumption) | exact Ne.symm (blk_not_loop (by assumption) (by assumption) (by assumption)) | exact blk_not_def (by assumption) (by assumption) | exact Ne.symm (blk_not_def (by assumption) (by assumption)) | exact def_ne_blk (by assumption) (by assumption) | exact Ne.symm (def_ne_blk (by assumption) (by assumption)))
    replace hF := hF.go1 U19 ge_D2
    exact ⟨_, rfl, own7, hF⟩

/-- greenscreen/greenscreenlaw15.all -/
theorem c_law15_all {r c cur : Int} {A : Option Addr} {n cp bp B0 : Nat} {cs : List Gs.Cell} {w : World} (h_bp : w.heap[bp]? = some (.cells #[.int .i64 r, .int .i64 c, .slice A n cp, .int .i64 cur] 102 (0, 0))) (own_p : Own B0 w 45 5 (.slice A n cp) (rows Gs.cv cs)) (hn : n = cs.length) {m : Int} (hN : Gs.cellsN r c = n) (hb : n ≤ 4096) (hcw : Gs.Cws cs) (hm : 1 ≤ m) :
    Calls Try.prog 11 #[.pointer (some ⟨bp, 0, none⟩), .int .i64 m] w fun e w' => ∃ v, e = .returned v ∧ Own w.heap.size w' 39 3 v (rows Gs.fv ((Gs.allM cs).take m.toNat)) ∧ Upd no w w' := by
  refine F11.calls ?_
  unfold F11
  subst hn
  have lt_h_bp := lt_get h_bp
  have lt_own_p := Own.lt own_p
  have hF : Upd no w w := Fr.refl _ _ _
  refine box_intro (by rfl) (fun b1 w1 e1 h_b1 _ U1 => ?_)
  have ne_bp_b1 : bp ≠ b1 := by have := lt_get h_bp; omega
  have na_own_p_b1 := own_p.apart e1
  have ge_b1 : w.heap.size ≤ b1 := by have := hF.size; omega
  replace own_p := own_p.upd0 U1
  replace h_bp := U1.get0 h_bp
  replace hF := hF.go0 U1
  clear e1
  refine buildSlice_intro (e := 39) (m := 3) (z := #[.int .i64 0, .int .i64 0, .int .u8 0]) (by kernel_rfl) (by kernel_rfl) (by rfl) (by decide) (by first | (simp [fillL, splice, repL, Value.cells, Gs.cv, Gs.fv]; done) | (simp [fillL, splice, repL, Value.cells, Gs.cv, Gs.fv]; rfl)) (fun b2 w2 e2 h_b2 _ U2 => ?_)
  have ne_bp_b2 : bp ≠ b2 := by have := lt_get h_bp; omega
  have na_own_p_b2 := own_p.apart e2
  have ne_b1_b2 : b1 ≠ b2 := by have := lt_get h_b1; omega
  have ge_b2 : w.heap.size ≤ b2 := by have := hF.size; omega
  replace own_p := own_p.upd0 U2
  replace h_bp := U2.get0 h_bp
  replace h_b1 := U2.get0 h_b1
  replace hF := hF.go0 U2
  clear e2
  have own_b2 := Own.of_block (n := 0) (xs := rows Gs.fv []) (size := 3) h_b2 ge_b2 rfl (by decide)
  refine alloc_intro (cs := #[.slice none 0 0]) (by kernel_rfl) (fun b3 w3 e3 h_b3 _ U3 => ?_)
  have ne_bp_b3 : bp ≠ b3 := by have := lt_get h_bp; omega
  have na_own_p_b3 := own_p.apart e3
  have ne_b1_b3 : b1 ≠ b3 := by have := lt_get h_b1; omega
  have na_own_b2_b3 := own_b2.apart e3
  have ge_b3 : w.heap.size ≤ b3 := by have := hF.size; omega
  replace own_p := own_p.upd0 U3
  replace own_b2 := own_b2.upd0 U3
  replace h_bp := U3.get0 h_bp
  replace h_b1 := U3.get0 h_b1
  replace hF := hF.go0 U3
  clear e3
  refine store1_intro (by kernel_rfl) rfl rfl h_b3 (by first | exact Nat.le_of_ble_eq_true rfl | (simp; done) | omega | (simp [vals_length, *]; done) | (simp [vals_length, *]; omega)) (by first | (simp [vals_set]; rfl) | rfl) (fun w4 N4 _ U4 => ?_)
  replace own_p := own_p.upd1 U4 na_own_p_b3
  replace own_b2 := own_b2.upd1 U4 na_own_b2_b3
  replace h_bp := U4.get1 h_bp ne_bp_b3
  replace h_b1 := U4.get1 h_b1 ne_b1_b3
  replace h_b3 := N4
  replace hF := hF.go1 U4 ge_b3
  refine join_cut (fun g w' => ∃ (D2 : Nat) (v5 : Value), (g 1000000 = mkV D2 undef) ∧ (w.heap.size ≤ D2) ∧ (w'.heap[D2]? = some (.deferred (some []))) ∧ (w'.heap[b3]? = some (.cells #[v5] 33 (0, 0))) ∧ (Own w.heap.size w' 39 3 v5 (rows Gs.fv ((Gs.allM cs).take m.toNat))) ∧ (Upd no w w')) (fun J1 hJ1 => ?_) (fun gJ1 wJ1 hI => ?_)
  · refine callF_ex (c_field_All h_bp own_p rfl) (fun v5 w5 D5 => ?_)
    obtain ⟨b1_9, rfl, g1_9, h_b1_9, U5⟩ := D5
    have ne_bp_b1_9 : bp ≠ b1_9 := by have := lt_get h_bp; omega
    have na_own_p_b1_9 : ∀ k, ownS _ k → k ≠ b1_9 := fun k hk => by have := (Own.ge own_p hk).2; omega
    have ne_b1_b1_9 : b1 ≠ b1_9 := by have := lt_get h_b1; omega
    have na_own_b2_b1_9 : ∀ k, ownS _ k → k ≠ b1_9 := fun k hk => by have := (Own.ge own_b2 hk).2; omega
    have ne_b3_b1_9 : b3 ≠ b1_9 := by have := lt_get h_b3; omega
    have ge_b1_9 : w.heap.size ≤ b1_9 := by have := hF.size; omega
    replace own_p := own_p.upd0 U5
    replace own_b2 := own_b2.upd0 U5
    replace h_bp := U5.get0 h_bp
    replace h_b1 := U5.get0 h_b1
    replace h_b3 := U5.get0 h_b3
    replace hF := hF.go0 U5
    refine rangeF_i (by kernel_rfl) (fun w6 l2 D2 Rdy2 Bsy2 Dn2 y2 eD el h_D2 h_l2 lp1 lp2 lp3 sz6 U6 hY => ?_)
    have ne_bp_D2 : bp ≠ D2 := by have := lt_get h_bp; omega
    have ne_bp_l2 : bp ≠ l2 := by have := lt_get h_bp; omega
    have na_own_p_D2 : ∀ k, ownS _ k → k ≠ D2 := fun k hk => by have := (Own.ge own_p hk).2; omega
    have na_own_p_l2 : ∀ k, ownS _ k → k ≠ l2 := fun k hk => by have := (Own.ge own_p hk).2; omega
    have ne_b1_D2 : b1 ≠ D2 := by have := lt_get h_b1; omega
    have ne_b1_l2 : b1 ≠ l2 := by have := lt_get h_b1; omega
    have na_own_b2_D2 : ∀ k, ownS _ k → k ≠ D2 := fun k hk => by have := (Own.ge own_b2 hk).2; omega
    have na_own_b2_l2 : ∀ k, ownS _ k → k ≠ l2 := fun k hk => by have := (Own.ge own_b2 hk).2; omega
    have ne_b3_D2 : b3 ≠ D2 := by have := lt_get h_b3; omega
    have ne_b3_l2 : b3 ≠ l2 := by have := lt_get h_b3; omega
    have ne_b1_9_D2 : b1_9 ≠ D2 := by have := lt_get h_b1_9; omega
    have ne_b1_9_l2 : b1_9 ≠ l2 := by have := lt_get h_b1_9; omega
    have ge_D2 : w.heap.size ≤ D2 := by have := hF.size; omega
    have ge_l2 : w.heap.size ≤ l2 := by have := hF.size; omega
    have ne_D2_l2 : D2 ≠ l2 := by omega
    replace own_p := own_p.upd0 U6
    replace own_b2 := own_b2.upd0 U6
    replace h_bp := U6.get0 h_bp
    replace h_b1 := U6.get0 h_b1
    replace h_b3 := U6.get0 h_b3
    replace h_b1_9 := U6.get0 h_b1_9
    replace hF := hF.go0 U6
    refine Calls.mono (c_field_All_1 (b1 := b1_9) (csF := (fun _ => cs)) (J := (fun (k : Nat) (w' : World) => ∃ (v5 : Value), (w'.heap[b3]? = some (.cells #[v5] 33 (0, 0))) ∧ (Own w.heap.size w' 39 3 v5 (rows Gs.fv ((Gs.allM cs).take k))) ∧ ((k : Int) < m) ∧ (w'.heap[bp]? = some (.cells #[.int .i64 r, .int .i64 c, .slice A cs.length cp, .int .i64 cur] 102 (0, 0))) ∧ (Own B0 w' 45 5 (.slice A cs.length cp) (rows Gs.cv cs)) ∧ (w'.heap[b1_9]? = some (.cells #[.pointer (some ⟨bp, 0, none⟩)] 26 (0, 0))) ∧ (w'.heap[b1]? = some (.cells #[.int .i64 m] 3 (0, 0))) ∧ (w'.heap[D2]? = some (.deferred (some []))) ∧ (w'.heap[l2]? = some Rdy2) ∧ (Upd no w w'))) (X := (fun (w' : World) => ∃ v5 : Value, (w'.heap[l2]? = some (Dn2 1)) ∧ (w'.heap[b3]? = some (.cells #[v5] 33 (0, 0))) ∧ (Own w.heap.size w' 39 3 v5 (rows Gs.fv ((Gs.allM cs).take m.toNat))) ∧ (w'.heap[bp]? = some (.cells #[.int .i64 r, .int .i64 c, .slice A cs.length cp, .int .i64 cur] 102 (0, 0))) ∧ (Own B0 w' 45 5 (.slice A cs.length cp) (rows Gs.cv cs)) ∧ (w'.heap[b1_9]? = some (.cells #[.pointer (some ⟨bp, 0, none⟩)] 26 (0, 0))) ∧ (w'.heap[D2]? = some (.deferred (some []))) ∧ (Upd no w w'))) (fun k w' hJ => by obtain ⟨v5, h_b3, own5, hkm, h_bp, own_p, h_b1_9, h_b1, h_D2, h_l2, hF⟩ := hJ; exact ⟨h_b1_9, h_bp, own_p⟩) (fun k w' w'' hJ U' => by obtain ⟨v5, h_b3, own5, hkm, h_bp, own_p, h_b1_9, h_b1, h_D2, h_l2, hF⟩ := hJ; exact ⟨v5, U'.get0 h_b3, own5.upd0 U', hkm, U'.get0 h_bp, own_p.upd0 U', U'.get0 h_b1_9, U'.get0 h_b1, U'.get0 h_D2, U'.get0 h_l2, hF.go0 U'⟩) (fun w' w'' hX U' => by obtain ⟨v5, h_x, h_b3, own5, h_bp, own_p, h_b1_9, h_D2, hF⟩ := hX; exact ⟨v5, U'.get0 h_x, U'.get0 h_b3, own5.upd0 U', U'.get0 h_bp, own_p.upd0 U', U'.get0 h_b1_9, U'.get0 h_D2, hF.go0 U'⟩) (fun _ => rfl) (fun _ => hcw) (fun _ _ => rfl) hN hb ?_ ?_) ?_
    · intro k wl2 xk hx hI
      obtain ⟨v5, h_b3, own5, hkm, h_bp, own_p, h_b1_9, h_b1, h_D2, h_l2, hF⟩ := hI
      have hk := (List.getElem?_eq_some_iff.1 hx).1
      have hsl := Gs.starts_len_le cs
      have hal := Gs.allM_len cs
      refine hY [.agg (Gs.fv (Gs.atM cs xk)).toArray] _ _ rfl h_l2 ?_
      try simp only [List.getD_cons_zero, List.getD_cons_succ]
      refine alloc_intro (cs := (Gs.fv Gs.zf).toArray) (by kernel_rfl) (fun b7 w7 e7 h_b7 _ U7 => ?_)
      have ne_b3_b7 : b3 ≠ b7 := by have := lt_get h_b3; omega
      have na_own5_b7 := own5.apart e7
      have ne_bp_b7 : bp ≠ b7 := by have := lt_get h_bp; omega
      have na_own_p_b7 := own_p.apart e7
      have ne_b1_9_b7 : b1_9 ≠ b7 := by have := lt_get h_b1_9; omega
      have ne_b1_b7 : b1 ≠ b7 := by have := lt_get h_b1; omega
      have ne_D2_b7 : D2 ≠ b7 := by have := lt_get h_D2; omega
      have ne_l2_b7 : l2 ≠ b7 := by have := lt_get h_l2; omega
      have ge_b7 : w.heap.size ≤ b7 := by have := hF.size; omega
      replace own5 := own5.upd0 U7
      replace own_p := own_p.upd0 U7
      replace h_b3 := U7.get0 h_b3
      replace h_bp := U7.get0 h_bp
      replace h_b1_9 := U7.get0 h_b1_9
      replace h_b1 := U7.get0 h_b1
      replace h_D2 := U7.get0 h_D2
      replace h_l2 := U7.get0 h_l2
      replace hF := hF.go0 U7
      clear e7
      refine store_intro (n := 3) (cs' := (Gs.fv (Gs.atM cs xk)).toArray) (by kernel_rfl) (by rfl) (by first | rfl | (simp [Value.cells, Value.oneCell', Gs.cv, Gs.fv]; done)) h_b7 (by first | exact Nat.le_of_ble_eq_true rfl | (simp; done) | omega) (by rfl) (fun w8 N8 _ U8 => ?_)
      replace own5 := own5.upd1 U8 na_own5_b7
      replace own_p := own_p.upd1 U8 na_own_p_b7
      replace h_b3 := U8.get1 h_b3 ne_b3_b7
      replace h_bp := U8.get1 h_bp ne_bp_b7
      replace h_b1_9 := U8.get1 h_b1_9 ne_b1_9_b7
      replace h_b1 := U8.get1 h_b1 ne_b1_b7
      replace h_D2 := U8.get1 h_D2 ne_D2_b7
      replace h_l2 := U8.get1 h_l2 ne_l2_b7
      replace h_b7 := N8
      replace hF := hF.go1 U8 ge_b7
      refine midR_i h_l2 (fun w9 N9 _ U9 => ?_)
      replace own5 := own5.upd1 U9 (by first | assumption | exact Own.ne_blk own5 (by assumption) (by decide) | exact Own.not_loop own5 (by assumption) (by assumption) | exact Own.not_def own5 (by assumption) | exact Own.not_loop own5 (by assumption) (lp3 _))
      replace own_p := own_p.upd1 U9 na_own_p_l2
      replace h_b3 := U9.get1 h_b3 ne_b3_l2
      replace h_bp := U9.get1 h_bp ne_bp_l2
      replace h_b1_9 := U9.get1 h_b1_9 ne_b1_9_l2
      replace h_b1 := U9.get1 h_b1 ne_b1_l2
      replace h_D2 := U9.get1 h_D2 ne_D2_l2
      replace h_b7 := U9.get1 h_b7 (Ne.symm ne_l2_b7)
      replace h_l2 := N9
      replace hF := hF.go1 U9 ge_l2
      refine opv_run (ldC (by kernel_rfl) h_b3 (by rfl)) ?_
      refine opv_run (ldA (n := 3) (cs' := (Gs.fv (Gs.atM cs xk)).toArray) (by kernel_rfl) h_b7 (by first | exact Nat.le_of_ble_eq_true rfl | (simp; done) | omega) (by rfl)) ?_
      refine buildSlice_intro (e := 39) (m := 3) (z := #[.int .i64 0, .int .i64 0, .int .u8 0]) (by kernel_rfl) (by kernel_rfl) (by rfl) (by decide) (by first | (simp [fillL, splice, repL, Value.cells, Gs.cv, Gs.fv]; done) | (simp [fillL, splice, repL, Value.cells, Gs.cv, Gs.fv]; rfl)) (fun b10 w10 e10 h_b10 _ U10 => ?_)
      have ne_b3_b10 : b3 ≠ b10 := by have := lt_get h_b3; omega
      have na_own5_b10 := own5.apart e10
      have ne_bp_b10 : bp ≠ b10 := by have := lt_get h_bp; omega
      have na_own_p_b10 := own_p.apart e10
      have ne_b1_9_b10 : b1_9 ≠ b10 := by have := lt_get h_b1_9; omega
      have ne_b1_b10 : b1 ≠ b10 := by have := lt_get h_b1; omega
      have ne_D2_b10 : D2 ≠ b10 := by have := lt_get h_D2; omega
      have ne_l2_b10 : l2 ≠ b10 := by have := lt_get h_l2; omega
      have ne_b7_b10 : b7 ≠ b10 := by have := lt_get h_b7; omega
      have ge_b10 : w.heap.size ≤ b10 := by have := hF.size; omega
      replace own5 := own5.upd0 U10
      replace own_p := own_p.upd0 U10
      replace h_b3 := U10.get0 h_b3
      replace h_bp := U10.get0 h_bp
      replace h_b1_9 := U10.get0 h_b1_9
      replace h_b1 := U10.get0 h_b1
      replace h_D2 := U10.get0 h_D2
      replace h_l2 := U10.get0 h_l2
      replace h_b7 := U10.get0 h_b7
      replace hF := hF.go0 U10
      clear e10
      refine app_introA (e := 39) (size := 3) (bytes := 24) (by kernel_rfl) own5 (show Rd _ (some ⟨b10, 0, none⟩) (rows Gs.fv [(Gs.atM cs xk)]) from Rd.of_blockL h_b10) (by first | exact rows_len Gs.encF _ | (rw [rows_len Gs.encF]; omega)) (rows_one Gs.encF _) (by rw [rows_len Gs.encF, rows_len Gs.encF]; try simp only [List.length_nil, List.length_cons, List.length_take, List.length_append]; omega) (by have := hF.size; omega) (fun v11 w11 N11 hA11 U11 => ?_)
      have own5_o := own5
      replace h_b3 := U11.get h_b3 (fun h => by first | (have := Own.ge own5_o h; omega) | exact Own.ne_blk own5_o h_b3 (by decide) _ h rfl | exact Own.not_loop own5_o h_b3 (by assumption) _ h rfl | exact Own.not_def own5_o h_b3 _ h rfl | simp_all)
      replace own5 := N11
      replace h_bp := U11.get h_bp (fun h => by first | (have := Own.ge own5_o h; omega) | exact Own.ne_blk own5_o h_bp (by decide) _ h rfl | exact Own.not_loop own5_o h_bp (by assumption) _ h rfl | exact Own.not_def own5_o h_bp _ h rfl | simp_all)
      replace own_p := own_p.updS U11 (fun k hk hs => by have := lt_own_p k hk; have := (Own.ge own5_o hs).1; omega)
      replace h_b1_9 := U11.get h_b1_9 (fun h => by first | (have := Own.ge own5_o h; omega) | exact Own.ne_blk own5_o h_b1_9 (by decide) _ h rfl | exact Own.not_loop own5_o h_b1_9 (by assumption) _ h rfl | exact Own.not_def own5_o h_b1_9 _ h rfl | simp_all)
      replace h_b1 := U11.get h_b1 (fun h => by first | (have := Own.ge own5_o h; omega) | exact Own.ne_blk own5_o h_b1 (by decide) _ h rfl | exact Own.not_loop own5_o h_b1 (by assumption) _ h rfl | exact Own.not_def own5_o h_b1 _ h rfl | simp_all)
      replace h_D2 := U11.get h_D2 (fun h => by first | (have := Own.ge own5_o h; omega) | exact Own.ne_blk own5_o h_D2 (by decide) _ h rfl | exact Own.not_loop own5_o h_D2 (by assumption) _ h rfl | exact Own.not_def own5_o h_D2 _ h rfl | simp_all)
      replace h_l2 := U11.get h_l2 (fun h => by first | (have := Own.ge own5_o h; omega) | exact Own.ne_blk own5_o h_l2 (by decide) _ h rfl | exact Own.not_loop own5_o h_l2 (by assumption) _ h rfl | exact Own.not_def own5_o h_l2 _ h rfl | simp_all)
      replace h_b7 := U11.get h_b7 (fun h => na_own5_b7 _ h rfl)
      replace h_b10 := U11.get h_b10 (fun h => na_own5_b10 _ h rfl)
      replace hF := hF.go U11 (fun i h hs => by first | exact hs | exact .inl hs | exact .inr hs | (have := (Own.ge own5_o hs).1; omega))
      clear own5_o
      rw [rows_append] at own5
      try simp only [List.nil_append] at own5
      obtain ⟨A11, c11, rfl⟩ := Own.open Gs.encF own5
      refine store1_intro (by kernel_rfl) rfl rfl h_b3 (by first | exact Nat.le_of_ble_eq_true rfl | (simp; done) | omega | (simp [vals_length, *]; done) | (simp [vals_length, *]; omega)) (by first | (simp [vals_set]; rfl) | rfl) (fun w12 N12 _ U12 => ?_)
      replace own5 := own5.upd1 U12 (by first | assumption | exact Own.ne_blk own5 (by assumption) (by decide) | exact Own.not_loop own5 (by assumption) (by assumption) | exact Own.not_def own5 (by assumption) | exact Own.not_loop own5 (by assumption) (lp3 _))
      replace own_p := own_p.upd1 U12 na_own_p_b3
      replace h_bp := U12.get1 h_bp ne_bp_b3
      replace h_b1_9 := U12.get1 h_b1_9 (Ne.symm ne_b3_b1_9)
      replace h_b1 := U12.get1 h_b1 ne_b1_b3
      replace h_D2 := U12.get1 h_D2 (Ne.symm ne_b3_D2)
      replace h_l2 := U12.get1 h_l2 (Ne.symm ne_b3_l2)
      replace h_b7 := U12.get1 h_b7 (Ne.symm ne_b3_b7)
      replace h_b10 := U12.get1 h_b10 (Ne.symm ne_b3_b10)
      replace h_b3 := N12
      replace hF := hF.go1 U12 ge_b3
      refine opv_run (ldC (by kernel_rfl) h_b3 (by rfl)) ?_
      refine opv_run (len_sl (by kernel_rfl) _ _ _) ?_
      rw [show min k (Gs.allM cs).length + 1 = k + 1 by omega]
      refine opv_run (ldC (by kernel_rfl) h_b1 (by rfl)) ?_
      refine opv_dec (eqI _ _ _ _ _) (fun h13 => ?_) (fun h13 => ?_)
      · refine condt ?_
        refine finE h_l2 (fun w14 N14 _ U14 => ?_)
        replace own5 := own5.upd1 U14 (by first | assumption | exact Own.ne_blk own5 (by assumption) (by decide) | exact Own.not_loop own5 (by assumption) (by assumption) | exact Own.not_def own5 (by assumption) | exact Own.not_loop own5 (by assumption) (lp3 _))
        replace own_p := own_p.upd1 U14 na_own_p_l2
        replace h_b3 := U14.get1 h_b3 ne_b3_l2
        replace h_bp := U14.get1 h_bp ne_bp_l2
        replace h_b1_9 := U14.get1 h_b1_9 ne_b1_9_l2
        replace h_b1 := U14.get1 h_b1 ne_b1_l2
        replace h_D2 := U14.get1 h_D2 ne_D2_l2
        replace h_b7 := U14.get1 h_b7 (Ne.symm ne_l2_b7)
        replace h_b10 := U14.get1 h_b10 (Ne.symm ne_l2_b10)
        replace h_l2 := N14
        replace hF := hF.go1 U14 ge_l2
        exact ⟨_, h_l2, h_b3, (by rw [show m.toNat = k + 1 by omega, ← Gs.take_step (Gs.allM_at hx)]; have h5 := own5; simp only [List.length_append, List.length_take, List.length_cons, List.length_nil, Nat.zero_add] at h5; exact h5), h_bp, own_p, h_b1_9, h_D2, hF⟩
      · refine condf ?_
        refine finN h_l2 (fun w15 N15 _ U15 => ?_)
        replace own5 := own5.upd1 U15 (by first | assumption | exact Own.ne_blk own5 (by assumption) (by decide) | exact Own.not_loop own5 (by assumption) (by assumption) | exact Own.not_def own5 (by assumption) | exact Own.not_loop own5 (by assumption) (lp3 _))
        replace own_p := own_p.upd1 U15 na_own_p_l2
        replace h_b3 := U15.get1 h_b3 ne_b3_l2
        replace h_bp := U15.get1 h_bp ne_bp_l2
        replace h_b1_9 := U15.get1 h_b1_9 ne_b1_9_l2
        replace h_b1 := U15.get1 h_b1 ne_b1_l2
        replace h_D2 := U15.get1 h_D2 ne_D2_l2
        replace h_b7 := U15.get1 h_b7 (Ne.symm ne_l2_b7)
        replace h_b10 := U15.get1 h_b10 (Ne.symm ne_l2_b10)
        replace h_l2 := N15
        replace hF := hF.go1 U15 ge_l2
        exact ⟨_, h_b3, (by rw [← Gs.take_step (Gs.allM_at hx)]; have h5 := own5; simp only [List.length_append, List.length_take, List.length_cons, List.length_nil, Nat.zero_add] at h5; exact h5), (by omega), h_bp, own_p, h_b1_9, h_b1, h_D2, h_l2, hF⟩
    · exact ⟨_, h_b3, (by rw [List.take_zero]; exact own_b2), (by omega), h_bp, own_p, h_b1_9, h_b1, h_D2, h_l2, hF⟩
    rintro e wE2 ⟨hv, hI | hI⟩
    · obtain ⟨v5, h_b3, own5, hkm, h_bp, own_p, h_b1_9, h_b1, h_D2, h_l2, hF⟩ := hI
      refine ⟨hv, .inl ⟨h_l2, fun w16 _ U16 => ?_⟩⟩
      replace own5 := own5.upd1 U16 (by first | assumption | exact Own.ne_blk own5 (by assumption) (by decide) | exact Own.not_loop own5 (by assumption) (by assumption) | exact Own.not_def own5 (by assumption) | exact Own.not_loop own5 (by assumption) (lp3 _))
      replace own_p := own_p.upd1 U16 na_own_p_l2
      replace h_b3 := U16.get1 h_b3 ne_b3_l2
      replace h_bp := U16.get1 h_bp ne_bp_l2
      replace h_b1_9 := U16.get1 h_b1_9 ne_b1_9_l2
      replace h_b1 := U16.get1 h_b1 ne_b1_l2
      replace h_D2 := U16.get1 h_D2 ne_D2_l2
      replace hF := hF.go1 U16 ge_l2
      refine hJ1 _ _ ?_
      exact ⟨_, _, (by first | exact g1000000 | rfl), ge_D2, h_D2, h_b3, (by first | exact own5 | (rw [List.take_of_length_le (by rw [Gs.allM_len]; exact Nat.le_refl _)] at own5; rw [List.take_of_length_le (by rw [Gs.allM_len]; omega)]; exact own5)), hF⟩
    · obtain ⟨v5, h_x, h_b3, own5, h_bp, own_p, h_b1_9, h_D2, hF⟩ := hI
      refine ⟨hv, .inr ⟨1, _, List.mem_singleton.2 rfl, h_x, fun w17 _ U17 => ?_⟩⟩
      replace own5 := own5.upd1 U17 (by first | assumption | exact Own.ne_blk own5 (by assumption) (by decide) | exact Own.not_loop own5 (by assumption) (by assumption) | exact Own.not_def own5 (by assumption) | exact Own.not_loop own5 (by assumption) (lp3 _))
      replace own_p := own_p.upd1 U17 na_own_p_l2
      replace h_b3 := U17.get1 h_b3 ne_b3_l2
      replace h_bp := U17.get1 h_bp ne_bp_l2
      replace h_b1_9 := U17.get1 h_b1_9 ne_b1_9_l2
      replace h_D2 := U17.get1 h_D2 ne_D2_l2
      replace hF := hF.go1 U17 ge_l2
      refine hJ1 _ _ ?_
      exact ⟨_, _, (by first | exact g1000000 | rfl), ge_D2, h_D2, h_b3, (by first | exact own5 | (rw [List.take_of_length_le (by rw [Gs.allM_len]; exact Nat.le_refl _)] at own5; rw [List.take_of_length_le (by rw [Gs.allM_len]; omega)]; exact own5)), hF⟩
  · obtain ⟨D2, v5, g1000000, ge_D2, h_D2, h_b3, own5, hF⟩ := hI
    try rw [g1000000]
    refine opv_run (ldC (by kernel_rfl) h_b3 (by rfl)) ?_
    refine leave1 h_D2 (fun w19 _ U19 => ?_)
    replace own5 := own5.upd1 U19 (by first | assumption | exact Own.ne_blk own5 (by assumption) (by decide) | exact Own.not_loop own5 (by assumption) (by assumption) | exact Own.not_def own5 (by assumption) | exact Own.not_loop own5 (by assumption) (lp3 _))
    replace h_b3 := U19.get1 h_b3 (by first | omega | exact blk_ne (by assumption) (by assumption) (by decide) | exact blk_not_loop (by assumption) (by assumption) (by assumption) | exact Ne.symm (blk_not_loop (by assumption) (by assumption) (by assumption)) | exact blk_not_def (by assumption) (by assumption) | exact Ne.symm (blk_not_def (by assumption) (by assumption)) | exact def_ne_blk (by assumption) (by assumption) | exact Ne.symm (def_ne_blk (by assumption) (by assumption)))
    replace hF := hF.go1 U19 ge_D2
    exact ⟨_, rfl, own5, hF⟩

/-- greenscreen/field.Home -/
theorem c_field_Home {r c cur : Int} {A : Option Addr} {n cp bp B0 : Nat} {cs : List Gs.Cell} {w : World} (h_bp : w.heap[bp]? = some (.cells #[.int .i64 r, .int .i64 c, .slice A n cp, .int .i64 cur] 102 (0, 0))) (own_p : Own B0 w 45 5 (.slice A n cp) (rows Gs.cv cs)) (hn : n = cs.length) (hN : Gs.cellsN r c = n) (hb : n ≤ 4096) (hcw : Gs.Cws cs)  :
    Calls Try.prog 13 #[.pointer (some ⟨bp, 0, none⟩)] w fun e w' => e = .returned (.int .i64 (Gs.homeM cs)) ∧ Upd no w w' := by
  refine F13.calls ?_
  unfold F13
  subst hn
  have lt_h_bp := lt_get h_bp
  have lt_own_p := Own.lt own_p
  have hF : Upd no w w := Fr.refl _ _ _
  refine box_intro (by rfl) (fun b1 w1 e1 h_b1 _ U1 => ?_)
  have ne_bp_b1 : bp ≠ b1 := by have := lt_get h_bp; omega
  have na_own_p_b1 := own_p.apart e1
  have ge_b1 : w.heap.size ≤ b1 := by have := hF.size; omega
  replace own_p := own_p.upd0 U1
  replace h_bp := U1.get0 h_bp
  replace hF := hF.go0 U1
  clear e1
  refine alloc_intro (cs := #[.int .i64 0]) (by kernel_rfl) (fun b2 w2 e2 h_b2 _ U2 => ?_)
  have ne_bp_b2 : bp ≠ b2 := by have := lt_get h_bp; omega
  have na_own_p_b2 := own_p.apart e2
  have ne_b1_b2 : b1 ≠ b2 := by have := lt_get h_b1; omega
  have ge_b2 : w.heap.size ≤ b2 := by have := hF.size; omega
  replace own_p := own_p.upd0 U2
  replace h_bp := U2.get0 h_bp
  replace h_b1 := U2.get0 h_b1
  replace hF := hF.go0 U2
  clear e2
  refine join_cut (fun g w' => ∃ (D2 : Nat), (g 1000000 = mkV D2 undef) ∧ (w.heap.size ≤ D2) ∧ (w'.heap[D2]? = some (.deferred (some []))) ∧ (Gs.noneH cs (Gs.startsN cs).length) ∧ (w'.heap[b2]? = some (.cells #[.int .i64 0] 3 (0, 0))) ∧ (Upd no w w')) (fun J1 hJ1 => ?_) (fun gJ1 wJ1 hI => ?_)
  · refine opv_run (ldC (by kernel_rfl) h_b1 (by rfl)) ?_
    refine callF_ex (c_field_All h_bp own_p rfl) (fun v3 w3 D3 => ?_)
    obtain ⟨b1_5, rfl, g1_5, h_b1_5, U3⟩ := D3
    have ne_bp_b1_5 : bp ≠ b1_5 := by have := lt_get h_bp; omega
    have na_own_p_b1_5 : ∀ k, ownS _ k → k ≠ b1_5 := fun k hk => by have := (Own.ge own_p hk).2; omega
    have ne_b1_b1_5 : b1 ≠ b1_5 := by have := lt_get h_b1; omega
    have ne_b2_b1_5 : b2 ≠ b1_5 := by have := lt_get h_b2; omega
    have ge_b1_5 : w.heap.size ≤ b1_5 := by have := hF.size; omega
    replace own_p := own_p.upd0 U3
    replace h_bp := U3.get0 h_bp
    replace h_b1 := U3.get0 h_b1
    replace h_b2 := U3.get0 h_b2
    replace hF := hF.go0 U3
    refine rangeF_i (by kernel_rfl) (fun w4 l2 D2 Rdy2 Bsy2 Dn2 y2 eD el h_D2 h_l2 lp1 lp2 lp3 sz4 U4 hY => ?_)
    have ne_bp_D2 : bp ≠ D2 := by have := lt_get h_bp; omega
    have ne_bp_l2 : bp ≠ l2 := by have := lt_get h_bp; omega
    have na_own_p_D2 : ∀ k, ownS _ k → k ≠ D2 := fun k hk => by have := (Own.ge own_p hk).2; omega
    have na_own_p_l2 : ∀ k, ownS _ k → k ≠ l2 := fun k hk => by have := (Own.ge own_p hk).2; omega
    have ne_b1_D2 : b1 ≠ D2 := by have := lt_get h_b1; omega
    have ne_b1_l2 : b1 ≠ l2 := by have := lt_get h_b1; omega
    have ne_b2_D2 : b2 ≠ D2 := by have := lt_get h_b2; omega
    have ne_b2_l2 : b2 ≠ l2 := by have := lt_get h_b2; omega
    have ne_b1_5_D2 : b1_5 ≠ D2 := by have := lt_get h_b1_5; omega
    have ne_b1_5_l2 : b1_5 ≠ l2 := by have := lt_get h_b1_5; omega
    have ge_D2 : w.heap.size ≤ D2 := by have := hF.size; omega
    have ge_l2 : w.heap.size ≤ l2 := by have := hF.size; omega
    have ne_D2_l2 : D2 ≠ l2 := by omega
    replace own_p := own_p.upd0 U4
    replace h_bp := U4.get0 h_bp
    replace h_b1 := U4.get0 h_b1
    replace h_b2 := U4.get0 h_b2
    replace h_b1_5 := U4.get0 h_b1_5
    replace hF := hF.go0 U4
    refine Calls.mono (c_field_All_1 (b1 := b1_5) (csF := (fun _ => cs)) (J := (fun (k : Nat) (w' : World) => (Gs.noneH cs k) ∧ (w'.heap[bp]? = some (.cells #[.int .i64 r, .int .i64 c, .slice A cs.length cp, .int .i64 cur] 102 (0, 0))) ∧ (Own B0 w' 45 5 (.slice A cs.length cp) (rows Gs.cv cs)) ∧ (w'.heap[b1_5]? = some (.cells #[.pointer (some ⟨bp, 0, none⟩)] 26 (0, 0))) ∧ (w'.heap[b1]? = some (.cells #[.pointer (some ⟨bp, 0, none⟩)] 26 (0, 0))) ∧ (w'.heap[b2]? = some (.cells #[.int .i64 0] 3 (0, 0))) ∧ (w'.heap[D2]? = some (.deferred (some []))) ∧ (w'.heap[l2]? = some Rdy2) ∧ (Upd no w w'))) (X := (fun (w' : World) => (w'.heap[l2]? = some (Dn2 0)) ∧ (w'.heap[b2]? = some (.cells #[.int .i64 (Gs.homeM cs)] 3 (0, 0))) ∧ (w'.heap[D2]? = some (.deferred (some []))) ∧ (Upd no w w'))) (fun k w' hJ => by obtain ⟨hno, h_bp, own_p, h_b1_5, h_b1, h_b2, h_D2, h_l2, hF⟩ := hJ; exact ⟨h_b1_5, h_bp, own_p⟩) (fun k w' w'' hJ U' => by obtain ⟨hno, h_bp, own_p, h_b1_5, h_b1, h_b2, h_D2, h_l2, hF⟩ := hJ; exact ⟨hno, U'.get0 h_bp, own_p.upd0 U', U'.get0 h_b1_5, U'.get0 h_b1, U'.get0 h_b2, U'.get0 h_D2, U'.get0 h_l2, hF.go0 U'⟩) (fun w' w'' hX U' => by obtain ⟨h_x, h_b2, h_D2, hF⟩ := hX; exact ⟨U'.get0 h_x, U'.get0 h_b2, U'.get0 h_D2, hF.go0 U'⟩) (fun _ => rfl) (fun _ => hcw) (fun _ _ => rfl) hN hb ?_ ?_) ?_
    · intro k wl2 xk hx hI
      obtain ⟨hno, h_bp, own_p, h_b1_5, h_b1, h_b2, h_D2, h_l2, hF⟩ := hI
      have hk := (List.getElem?_eq_some_iff.1 hx).1
      have hsl := Gs.starts_len_le cs
      refine hY [.agg (Gs.fv (Gs.atM cs xk)).toArray] _ _ rfl h_l2 ?_
      try simp only [List.getD_cons_zero, List.getD_cons_succ]
      refine alloc_intro (cs := (Gs.fv Gs.zf).toArray) (by kernel_rfl) (fun b5 w5 e5 h_b5 _ U5 => ?_)
      have ne_bp_b5 : bp ≠ b5 := by have := lt_get h_bp; omega
      have na_own_p_b5 := own_p.apart e5
      have ne_b1_5_b5 : b1_5 ≠ b5 := by have := lt_get h_b1_5; omega
      have ne_b1_b5 : b1 ≠ b5 := by have := lt_get h_b1; omega
      have ne_b2_b5 : b2 ≠ b5 := by have := lt_get h_b2; omega
      have ne_D2_b5 : D2 ≠ b5 := by have := lt_get h_D2; omega
      have ne_l2_b5 : l2 ≠ b5 := by have := lt_get h_l2; omega
      have ge_b5 : w.heap.size ≤ b5 := by have := hF.size; omega
      replace own_p := own_p.upd0 U5
      replace h_bp := U5.get0 h_bp
      replace h_b1_5 := U5.get0 h_b1_5
      replace h_b1 := U5.get0 h_b1
      replace h_b2 := U5.get0 h_b2
      replace h_D2 := U5.get0 h_D2
      replace h_l2 := U5.get0 h_l2
      replace hF := hF.go0 U5
      clear e5
      refine store_intro (n := 3) (cs' := (Gs.fv (Gs.atM cs xk)).toArray) (by kernel_rfl) (by rfl) (by first | rfl | (simp [Value.cells, Value.oneCell', Gs.cv, Gs.fv]; done)) h_b5 (by first | exact Nat.le_of_ble_eq_true rfl | (simp; done) | omega) (by rfl) (fun w6 N6 _ U6 => ?_)
      replace own_p := own_p.upd1 U6 na_own_p_b5
      replace h_bp := U6.get1 h_bp ne_bp_b5
      replace h_b1_5 := U6.get1 h_b1_5 ne_b1_5_b5
      replace h_b1 := U6.get1 h_b1 ne_b1_b5
      replace h_b2 := U6.get1 h_b2 ne_b2_b5
      replace h_D2 := U6.get1 h_D2 ne_D2_b5
      replace h_l2 := U6.get1 h_l2 ne_l2_b5
      replace h_b5 := N6
      replace hF := hF.go1 U6 ge_b5
      refine midR_i h_l2 (fun w7 N7 _ U7 => ?_)
      replace own_p := own_p.upd1 U7 na_own_p_l2
      replace h_bp := U7.get1 h_bp ne_bp_l2
      replace h_b1_5 := U7.get1 h_b1_5 ne_b1_5_l2
      replace h_b1 := U7.get1 h_b1 ne_b1_l2
      replace h_b2 := U7.get1 h_b2 ne_b2_l2
      replace h_D2 := U7.get1 h_D2 ne_D2_l2
      replace h_b5 := U7.get1 h_b5 (Ne.symm ne_l2_b5)
      replace h_l2 := N7
      replace hF := hF.go1 U7 ge_l2
      refine opv_run (fieldAt_eq (off := 1) (by kernel_rfl)) ?_
      refine opv_run (ldC (by kernel_rfl) h_b5 (by rfl)) ?_
      refine opv_dec (gtr _ _ _ _) (fun h8 => ?_) (fun h8 => ?_)
      · refine gdtt ?_
        refine opv_run (fieldAt_eq (off := 2) (by kernel_rfl)) ?_
        refine gdtt ?_
        refine opv_run (ldC (by kernel_rfl) h_b5 (by rfl)) ?_
        refine gdtt ?_
        refine callF_bool (c_attr_Protected (Gs.at_a hcw xk)) (fun w9 U9 h9 => ?_) (fun w9 U9 h9 => ?_)
        · replace own_p := own_p.upd0 U9
          replace h_bp := U9.get0 h_bp
          replace h_b1_5 := U9.get0 h_b1_5
          replace h_b1 := U9.get0 h_b1
          replace h_b2 := U9.get0 h_b2
          replace h_D2 := U9.get0 h_D2
          replace h_l2 := U9.get0 h_l2
          replace h_b5 := U9.get0 h_b5
          replace hF := hF.go0 U9
          try simp only [decide_eq_true_eq, decide_eq_false_iff_not] at h9
          refine gdtt ?_
          refine opv_run (notT) ?_
          refine pickt ?_
          refine condf ?_
          refine finN h_l2 (fun w10 N10 _ U10 => ?_)
          replace own_p := own_p.upd1 U10 na_own_p_l2
          replace h_bp := U10.get1 h_bp ne_bp_l2
          replace h_b1_5 := U10.get1 h_b1_5 ne_b1_5_l2
          replace h_b1 := U10.get1 h_b1 ne_b1_l2
          replace h_b2 := U10.get1 h_b2 ne_b2_l2
          replace h_D2 := U10.get1 h_D2 ne_D2_l2
          replace h_b5 := U10.get1 h_b5 (Ne.symm ne_l2_b5)
          replace h_l2 := N10
          replace hF := hF.go1 U10 ge_l2
          exact ⟨(Gs.noneH_step hno hx (by first | exact Gs.homeF_l (by assumption) | exact Gs.homeF_p (by assumption))), h_bp, own_p, h_b1_5, h_b1, h_b2, h_D2, h_l2, hF⟩
        · replace own_p := own_p.upd0 U9
          replace h_bp := U9.get0 h_bp
          replace h_b1_5 := U9.get0 h_b1_5
          replace h_b1 := U9.get0 h_b1
          replace h_b2 := U9.get0 h_b2
          replace h_D2 := U9.get0 h_D2
          replace h_l2 := U9.get0 h_l2
          replace h_b5 := U9.get0 h_b5
          replace hF := hF.go0 U9
          try simp only [decide_eq_true_eq, decide_eq_false_iff_not] at h9
          refine gdtt ?_
          refine opv_run (notF) ?_
          refine pickt ?_
          refine condt ?_
          refine drawn_S (S := no) (fun w11 U11 => ?_)
          replace own_p := own_p.upd0 U11
          replace h_bp := U11.get0 h_bp
          replace h_b1_5 := U11.get0 h_b1_5
          replace h_b1 := U11.get0 h_b1
          replace h_b2 := U11.get0 h_b2
          replace h_D2 := U11.get0 h_D2
          replace h_l2 := U11.get0 h_l2
          replace h_b5 := U11.get0 h_b5
          replace hF := hF.go0 U11
          refine qop_run (fun w' hw' => by have h_b1 := hw'.get0 h_b1; exact (ldC (by kernel_rfl) h_b1 (by rfl))) ?_
          refine qop_call (fun w' hw' => by have h_bp := hw'.get0 h_bp; have own_p := own_p.upd0 hw'; exact c_Plane_Size h_bp own_p rfl) ?_
          refine qop_run (fun w' hw' => (fieldAt_eq (off := 0) (by kernel_rfl))) ?_
          refine qop_run (fun w' hw' => by have h_b5 := hw'.get0 h_b5; exact (ldC (by kernel_rfl) h_b5 (by rfl))) ?_
          refine qop_call (fun w' hw' => c_addr_Move (i := (xk : Int)) (j := 1)) ?_
          rw [hN, Gs.moveN_at (by omega), Gs.home_at hno hx (Gs.homeF_T (by assumption) (by assumption))]
          refine ext_intro (fun w14 U14 => ?_)
          replace own_p := own_p.upd0 U14
          replace h_bp := U14.get0 h_bp
          replace h_b1_5 := U14.get0 h_b1_5
          replace h_b1 := U14.get0 h_b1
          replace h_b2 := U14.get0 h_b2
          replace h_D2 := U14.get0 h_D2
          replace h_l2 := U14.get0 h_l2
          replace h_b5 := U14.get0 h_b5
          replace hF := hF.go0 U14
          refine store1_intro (by kernel_rfl) rfl rfl h_b2 (by first | exact Nat.le_of_ble_eq_true rfl | (simp; done) | omega | (simp [vals_length, *]; done) | (simp [vals_length, *]; omega)) (by first | (simp [vals_set]; rfl) | rfl) (fun w15 N15 _ U15 => ?_)
          replace own_p := own_p.upd1 U15 na_own_p_b2
          replace h_bp := U15.get1 h_bp ne_bp_b2
          replace h_b1_5 := U15.get1 h_b1_5 (Ne.symm ne_b2_b1_5)
          replace h_b1 := U15.get1 h_b1 ne_b1_b2
          replace h_D2 := U15.get1 h_D2 (Ne.symm ne_b2_D2)
          replace h_l2 := U15.get1 h_l2 (Ne.symm ne_b2_l2)
          replace h_b5 := U15.get1 h_b5 (Ne.symm ne_b2_b5)
          replace h_b2 := N15
          replace hF := hF.go1 U15 ge_b2
          refine ext_intro (fun w16 U16 => ?_)
          replace own_p := own_p.upd0 U16
          replace h_bp := U16.get0 h_bp
          replace h_b1_5 := U16.get0 h_b1_5
          replace h_b1 := U16.get0 h_b1
          replace h_b2 := U16.get0 h_b2
          replace h_D2 := U16.get0 h_D2
          replace h_l2 := U16.get0 h_l2
          replace h_b5 := U16.get0 h_b5
          replace hF := hF.go0 U16
          refine finT h_l2 (fun w17 N17 _ U17 => ?_)
          replace own_p := own_p.upd1 U17 na_own_p_l2
          replace h_bp := U17.get1 h_bp ne_bp_l2
          replace h_b1_5 := U17.get1 h_b1_5 ne_b1_5_l2
          replace h_b1 := U17.get1 h_b1 ne_b1_l2
          replace h_b2 := U17.get1 h_b2 ne_b2_l2
          replace h_D2 := U17.get1 h_D2 ne_D2_l2
          replace h_b5 := U17.get1 h_b5 (Ne.symm ne_l2_b5)
          replace h_l2 := N17
          replace hF := hF.go1 U17 ge_l2
          exact ⟨h_l2, h_b2, h_D2, hF⟩
      · refine gdft ?_
        refine gdft ?_
        refine gdft ?_
        refine gdft ?_
        refine pickf ?_
        refine condf ?_
        refine finN h_l2 (fun w18 N18 _ U18 => ?_)
        replace own_p := own_p.upd1 U18 na_own_p_l2
        replace h_bp := U18.get1 h_bp ne_bp_l2
        replace h_b1_5 := U18.get1 h_b1_5 ne_b1_5_l2
        replace h_b1 := U18.get1 h_b1 ne_b1_l2
        replace h_b2 := U18.get1 h_b2 ne_b2_l2
        replace h_D2 := U18.get1 h_D2 ne_D2_l2
        replace h_b5 := U18.get1 h_b5 (Ne.symm ne_l2_b5)
        replace h_l2 := N18
        replace hF := hF.go1 U18 ge_l2
        exact ⟨(Gs.noneH_step hno hx (by first | exact Gs.homeF_l (by assumption) | exact Gs.homeF_p (by assumption))), h_bp, own_p, h_b1_5, h_b1, h_b2, h_D2, h_l2, hF⟩
    · exact ⟨(Gs.noneH_0 _), h_bp, own_p, h_b1_5, h_b1, h_b2, h_D2, h_l2, hF⟩
    rintro e wE2 ⟨hv, hI | hI⟩
    · obtain ⟨hno, h_bp, own_p, h_b1_5, h_b1, h_b2, h_D2, h_l2, hF⟩ := hI
      refine ⟨hv, .inl ⟨h_l2, fun w19 _ U19 => ?_⟩⟩
      replace own_p := own_p.upd1 U19 na_own_p_l2
      replace h_bp := U19.get1 h_bp ne_bp_l2
      replace h_b1_5 := U19.get1 h_b1_5 ne_b1_5_l2
      replace h_b1 := U19.get1 h_b1 ne_b1_l2
      replace h_b2 := U19.get1 h_b2 ne_b2_l2
      replace h_D2 := U19.get1 h_D2 ne_D2_l2
      replace hF := hF.go1 U19 ge_l2
      refine hJ1 _ _ ?_
      exact ⟨_, (by first | exact g1000000 | rfl), ge_D2, h_D2, hno, h_b2, hF⟩
    · obtain ⟨h_x, h_b2, h_D2, hF⟩ := hI
      refine ⟨hv, .inr ⟨0, _, List.mem_singleton.2 rfl, h_x, fun w20 _ U20 => ?_⟩⟩
      replace h_b2 := U20.get1 h_b2 ne_b2_l2
      replace h_D2 := U20.get1 h_D2 ne_D2_l2
      replace hF := hF.go1 U20 ge_l2
      refine leave1 h_D2 (fun w22 _ U22 => ?_)
      replace h_b2 := U22.get1 h_b2 ne_b2_D2
      replace hF := hF.go1 U22 ge_D2
      refine ldv_run (ldC (by kernel_rfl) h_b2 (by rfl)) ?_
      first | exact ⟨rfl, hF⟩ | (rw [Gs.home_none hno]; exact ⟨rfl, hF⟩)
  · obtain ⟨D2, g1000000, ge_D2, h_D2, hno, h_b2, hF⟩ := hI
    try rw [g1000000]
    refine store1_intro (by kernel_rfl) rfl rfl h_b2 (by first | exact Nat.le_of_ble_eq_true rfl | (simp; done) | omega | (simp [vals_length, *]; done) | (simp [vals_length, *]; omega)) (by first | (simp [vals_set]; rfl) | rfl) (fun w23 N23 _ U23 => ?_)
    replace h_D2 := U23.get1 h_D2 (by first | omega | exact blk_ne (by assumption) (by assumption) (by decide) | exact blk_not_loop (by assumption) (by assumption) (by assumption) | exact Ne.symm (blk_not_loop (by assumption) (by assumption) (by assumption)) | exact blk_not_def (by assumption) (by assumption) | exact Ne.symm (blk_not_def (by assumption) (by assumption)) | exact def_ne_blk (by assumption) (by assumption) | exact Ne.symm (def_ne_blk (by assumption) (by assumption)))
    replace h_b2 := N23
    replace hF := hF.go1 U23 ge_b2
    refine leave1 h_D2 (fun w25 _ U25 => ?_)
    replace h_b2 := U25.get1 h_b2 (by first | omega | exact blk_ne (by assumption) (by assumption) (by decide) | exact blk_not_loop (by assumption) (by assumption) (by assumption) | exact Ne.symm (blk_not_loop (by assumption) (by assumption) (by assumption)) | exact blk_not_def (by assumption) (by assumption) | exact Ne.symm (blk_not_def (by assumption) (by assumption)) | exact def_ne_blk (by assumption) (by assumption) | exact Ne.symm (def_ne_blk (by assumption) (by assumption)))
    replace hF := hF.go1 U25 ge_D2
    refine ldv_run (ldC (by kernel_rfl) h_b2 (by rfl)) ?_
    first | exact ⟨rfl, hF⟩ | (rw [Gs.home_none hno]; exact ⟨rfl, hF⟩)

end Go.Proofs.Ytojcbhkhfcddnaa
