/-
  Contracts of functions of the program, walked over their shallow forms. No condition but the ones that each states.
-/
import Derived.Test.YtojcbhkhfcddnaaFc
import Derived.Test.YtojcbhkhfcddnaaFieldText
namespace Go.Proofs.Ytojcbhkhfcddnaa
open Go Go.Sh
set_option linter.unusedVariables false
set_option maxRecDepth 100000


/-- greenscreen/field.Unmark -/
theorem c_field_Unmark {r c cur : Int} {A : Option Addr} {n cp bp B0 : Nat} {cs : List Gs.Cell} {w : World} (h_bp : w.heap[bp]? = some (.cells #[.int .i64 r, .int .i64 c, .slice A n cp, .int .i64 cur] 102 (0, 0))) (own_p : Own B0 w 45 5 (.slice A n cp) (rows Gs.cv cs)) (hn : n = cs.length) (hN : Gs.cellsN r c = n) (hb : n ≤ 4096) (hcw : Gs.Cws cs)  :
    Calls Try.prog 35 #[.pointer (some ⟨bp, 0, none⟩)] w fun e w' => ∃ v, e = .returned v ∧ v = .int .i64 (Gs.unmN cs (Gs.startsN cs).length : Nat) ∧ Own B0 w' 45 5 (.slice A n cp) (rows Gs.cv (Gs.unmC cs (Gs.startsN cs))) ∧ Upd (ownS (.slice A n cp)) w w' := by
  refine F35.calls ?_
  unfold F35
  subst hn
  have hsl := Gs.starts_len_le cs
  have lt_h_bp := lt_get h_bp
  have lt_own_p := Own.lt own_p
  have hF : Upd (ownS (.slice A cs.length cp)) w w := Fr.refl _ _ _
  refine box_intro (by rfl) (fun b1 w1 e1 h_b1 _ U1 => ?_)
  have ne_bp_b1 : bp ≠ b1 := by have := lt_get h_bp; omega
  have na_own_p_b1 := own_p.apart e1
  have ge_b1 : w.heap.size ≤ b1 := by have := hF.size; omega
  replace own_p := own_p.upd0 U1
  replace h_bp := U1.get0 h_bp
  replace hF := hF.go0 U1
  clear e1
  refine alloc_intro (cs := #[.int .i64 0]) (by kernel_rfl) (fun b2 w2 e2 h_b2 _ U2 => ?_)
  have ne_bp_b2 : bp ≠ b2 := by have := lt_get h_bp; omega
  have na_own_p_b2 := own_p.apart e2
  have ne_b1_b2 : b1 ≠ b2 := by have := lt_get h_b1; omega
  have ge_b2 : w.heap.size ≤ b2 := by have := hF.size; omega
  replace own_p := own_p.upd0 U2
  replace h_bp := U2.get0 h_bp
  replace h_b1 := U2.get0 h_b1
  replace hF := hF.go0 U2
  clear e2
  refine store1_intro (by kernel_rfl) rfl rfl h_b2 (by first | exact Nat.le_of_ble_eq_true rfl | (simp; done) | omega | (simp [vals_length, *]; done) | (simp [vals_length, *]; omega)) (by first | (simp [vals_set]; rfl) | rfl) (fun w3 N3 _ U3 => ?_)
  replace own_p := own_p.upd1 U3 na_own_p_b2
  replace h_bp := U3.get1 h_bp ne_bp_b2
  replace h_b1 := U3.get1 h_b1 ne_b1_b2
  replace h_b2 := N3
  replace hF := hF.go1 U3 ge_b2
  refine join_cut (fun g w' => ∃ (D2 : Nat), (g 1000000 = mkV D2 undef) ∧ (w.heap.size ≤ D2) ∧ (w'.heap[D2]? = some (.deferred (some []))) ∧ (w'.heap[b2]? = some (.cells #[.int .i64 (Gs.unmN cs (Gs.startsN cs).length : Nat)] 3 (0, 0))) ∧ (Own B0 w' 45 5 (.slice A cs.length cp) (rows Gs.cv (Gs.unmC cs (Gs.startsN cs)))) ∧ (Upd (ownS (.slice A cs.length cp)) w w')) (fun J1 hJ1 => ?_) (fun gJ1 wJ1 hI => ?_)
  · refine opv_run (ldC (by kernel_rfl) h_b1 (by rfl)) ?_
    refine callF_ex (c_field_All h_bp own_p rfl) (fun v4 w4 D4 => ?_)
    obtain ⟨b1_6, rfl, g1_6, h_b1_6, U4⟩ := D4
    have ne_bp_b1_6 : bp ≠ b1_6 := by have := lt_get h_bp; omega
    have na_own_p_b1_6 : ∀ k, ownS _ k → k ≠ b1_6 := fun k hk => by have := (Own.ge own_p hk).2; omega
    have ne_b1_b1_6 : b1 ≠ b1_6 := by have := lt_get h_b1; omega
    have ne_b2_b1_6 : b2 ≠ b1_6 := by have := lt_get h_b2; omega
    have ge_b1_6 : w.heap.size ≤ b1_6 := by have := hF.size; omega
    replace own_p := own_p.upd0 U4
    replace h_bp := U4.get0 h_bp
    replace h_b1 := U4.get0 h_b1
    replace h_b2 := U4.get0 h_b2
    replace hF := hF.go0 U4
    refine rangeF_i (by kernel_rfl) (fun w5 l2 D2 Rdy2 Bsy2 Dn2 y2 eD el h_D2 h_l2 lp1 lp2 lp3 sz5 U5 hY => ?_)
    have ne_bp_D2 : bp ≠ D2 := by have := lt_get h_bp; omega
    have ne_bp_l2 : bp ≠ l2 := by have := lt_get h_bp; omega
    have na_own_p_D2 : ∀ k, ownS _ k → k ≠ D2 := fun k hk => by have := (Own.ge own_p hk).2; omega
    have na_own_p_l2 : ∀ k, ownS _ k → k ≠ l2 := fun k hk => by have := (Own.ge own_p hk).2; omega
    have ne_b1_D2 : b1 ≠ D2 := by have := lt_get h_b1; omega
    have ne_b1_l2 : b1 ≠ l2 := by have := lt_get h_b1; omega
    have ne_b2_D2 : b2 ≠ D2 := by have := lt_get h_b2; omega
    have ne_b2_l2 : b2 ≠ l2 := by have := lt_get h_b2; omega
    have ne_b1_6_D2 : b1_6 ≠ D2 := by have := lt_get h_b1_6; omega
    have ne_b1_6_l2 : b1_6 ≠ l2 := by have := lt_get h_b1_6; omega
    have ge_D2 : w.heap.size ≤ D2 := by have := hF.size; omega
    have ge_l2 : w.heap.size ≤ l2 := by have := hF.size; omega
    have ne_D2_l2 : D2 ≠ l2 := by omega
    replace own_p := own_p.upd0 U5
    replace h_bp := U5.get0 h_bp
    replace h_b1 := U5.get0 h_b1
    replace h_b2 := U5.get0 h_b2
    replace h_b1_6 := U5.get0 h_b1_6
    replace hF := hF.go0 U5
    refine Calls.mono (c_field_All_1 (b1 := b1_6) (csF := (fun k => Gs.unmC cs ((Gs.startsN cs).take k))) (J := (fun (k : Nat) (w' : World) => (w'.heap[bp]? = some (.cells #[.int .i64 r, .int .i64 c, .slice A cs.length cp, .int .i64 cur] 102 (0, 0))) ∧ (Own B0 w' 45 5 (.slice A cs.length cp) (rows Gs.cv (Gs.unmC cs ((Gs.startsN cs).take k)))) ∧ (w'.heap[b2]? = some (.cells #[.int .i64 (Gs.unmN cs k : Nat)] 3 (0, 0))) ∧ (w'.heap[b1_6]? = some (.cells #[.pointer (some ⟨bp, 0, none⟩)] 26 (0, 0))) ∧ (w'.heap[b1]? = some (.cells #[.pointer (some ⟨bp, 0, none⟩)] 26 (0, 0))) ∧ (w'.heap[D2]? = some (.deferred (some []))) ∧ (w'.heap[l2]? = some Rdy2) ∧ (Upd (ownS (.slice A cs.length cp)) w w'))) (X := (fun _ => False)) (fun k w' hJ => by obtain ⟨h_bp, own_p, h_b2, h_b1_6, h_b1, h_D2, h_l2, hF⟩ := hJ; exact ⟨h_b1_6, h_bp, own_p⟩) (fun k w' w'' hJ U' => by obtain ⟨h_bp, own_p, h_b2, h_b1_6, h_b1, h_D2, h_l2, hF⟩ := hJ; exact ⟨U'.get0 h_bp, own_p.upd0 U', U'.get0 h_b2, U'.get0 h_b1_6, U'.get0 h_b1, U'.get0 h_D2, U'.get0 h_l2, hF.go0 U'⟩) (fun _ _ h _ => h.elim) (fun _ => Gs.unm_len cs _) (fun _ => Gs.unm_w hcw _) (fun _ _ => by rw [Gs.unm_st, Gs.unm_st]) hN hb ?_ ?_) ?_
    · intro k wl2 xk hx hI
      obtain ⟨h_bp, own_p, h_b2, h_b1_6, h_b1, h_D2, h_l2, hF⟩ := hI
      have hx : (Gs.startsN cs)[k]? = some xk := hx
      have hk := (List.getElem?_eq_some_iff.1 hx).1
      have hxm := Gs.starts_mem.1 (List.mem_of_getElem? hx)
      have hxn := hxm.1
      have hle := Gs.unmN_le cs k
      refine hY [.agg (Gs.fv (Gs.atM (Gs.unmC cs ((Gs.startsN cs).take k)) xk)).toArray] _ _ rfl h_l2 ?_
      try simp only [List.getD_cons_zero, List.getD_cons_succ]
      refine alloc_intro (cs := (Gs.fv Gs.zf).toArray) (by kernel_rfl) (fun b6 w6 e6 h_b6 _ U6 => ?_)
      have ne_bp_b6 : bp ≠ b6 := by have := lt_get h_bp; omega
      have na_own_p_b6 := own_p.apart e6
      have ne_b2_b6 : b2 ≠ b6 := by have := lt_get h_b2; omega
      have ne_b1_6_b6 : b1_6 ≠ b6 := by have := lt_get h_b1_6; omega
      have ne_b1_b6 : b1 ≠ b6 := by have := lt_get h_b1; omega
      have ne_D2_b6 : D2 ≠ b6 := by have := lt_get h_D2; omega
      have ne_l2_b6 : l2 ≠ b6 := by have := lt_get h_l2; omega
      have ge_b6 : w.heap.size ≤ b6 := by have := hF.size; omega
      replace own_p := own_p.upd0 U6
      replace h_bp := U6.get0 h_bp
      replace h_b2 := U6.get0 h_b2
      replace h_b1_6 := U6.get0 h_b1_6
      replace h_b1 := U6.get0 h_b1
      replace h_D2 := U6.get0 h_D2
      replace h_l2 := U6.get0 h_l2
      replace hF := hF.go0 U6
      clear e6
      refine store_intro (n := 3) (cs' := (Gs.fv (Gs.atM (Gs.unmC cs ((Gs.startsN cs).take k)) xk)).toArray) (by kernel_rfl) (by rfl) (by first | rfl | (simp [Value.cells, Value.oneCell', Gs.cv, Gs.fv]; done)) h_b6 (by first | exact Nat.le_of_ble_eq_true rfl | (simp; done) | omega) (by rfl) (fun w7 N7 _ U7 => ?_)
      replace own_p := own_p.upd1 U7 na_own_p_b6
      replace h_bp := U7.get1 h_bp ne_bp_b6
      replace h_b2 := U7.get1 h_b2 ne_b2_b6
      replace h_b1_6 := U7.get1 h_b1_6 ne_b1_6_b6
      replace h_b1 := U7.get1 h_b1 ne_b1_b6
      replace h_D2 := U7.get1 h_D2 ne_D2_b6
      replace h_l2 := U7.get1 h_l2 ne_l2_b6
      replace h_b6 := N7
      replace hF := hF.go1 U7 ge_b6
      refine midR_i h_l2 (fun w8 N8 _ U8 => ?_)
      replace own_p := own_p.upd1 U8 na_own_p_l2
      replace h_bp := U8.get1 h_bp ne_bp_l2
      replace h_b2 := U8.get1 h_b2 ne_b2_l2
      replace h_b1_6 := U8.get1 h_b1_6 ne_b1_6_l2
      replace h_b1 := U8.get1 h_b1 ne_b1_l2
      replace h_D2 := U8.get1 h_D2 ne_D2_l2
      replace h_b6 := U8.get1 h_b6 (Ne.symm ne_l2_b6)
      replace h_l2 := N8
      replace hF := hF.go1 U8 ge_l2
      refine opv_run (fieldAt_eq (off := 2) (by kernel_rfl)) ?_
      refine opv_run (ldC (by kernel_rfl) h_b6 (by rfl)) ?_
      refine callF_bool (c_attr_Modified (Gs.at_a (Gs.unm_w hcw _) xk)) (fun w9 U9 h9 => ?_) (fun w9 U9 h9 => ?_)
      · replace own_p := own_p.upd0 U9
        replace h_bp := U9.get0 h_bp
        replace h_b2 := U9.get0 h_b2
        replace h_b1_6 := U9.get0 h_b1_6
        replace h_b1 := U9.get0 h_b1
        replace h_D2 := U9.get0 h_D2
        replace h_l2 := U9.get0 h_l2
        replace h_b6 := U9.get0 h_b6
        replace hF := hF.go0 U9
        try simp only [decide_eq_true_eq, decide_eq_false_iff_not] at h9
        refine condt ?_
        refine opv_run (ldC (by kernel_rfl) h_b2 (by rfl)) ?_
        first | refine opv_run (add_i64 _ (by omega)) ?_ | refine opv_run (addI _ _ _ _) ?_
        refine store1_intro (by kernel_rfl) rfl rfl h_b2 (by first | exact Nat.le_of_ble_eq_true rfl | (simp; done) | omega | (simp [vals_length, *]; done) | (simp [vals_length, *]; omega)) (by first | (simp [vals_set]; rfl) | rfl) (fun w10 N10 _ U10 => ?_)
        replace own_p := own_p.upd1 U10 na_own_p_b2
        replace h_bp := U10.get1 h_bp ne_bp_b2
        replace h_b1_6 := U10.get1 h_b1_6 (Ne.symm ne_b2_b1_6)
        replace h_b1 := U10.get1 h_b1 ne_b1_b2
        replace h_D2 := U10.get1 h_D2 (Ne.symm ne_b2_D2)
        replace h_l2 := U10.get1 h_l2 (Ne.symm ne_b2_l2)
        replace h_b6 := U10.get1 h_b6 (Ne.symm ne_b2_b6)
        replace h_b2 := N10
        replace hF := hF.go1 U10 ge_b2
        refine opv_run (ldC (by kernel_rfl) h_b1 (by rfl)) ?_
        refine opv_run (fieldAt_eq (off := 0) (by kernel_rfl)) ?_
        refine opv_run (ldC (by kernel_rfl) h_b6 (by rfl)) ?_
        refine callF_ex (c_field_modify_F h_bp own_p (Gs.unm_len cs _) hN hb (Gs.unm_w hcw _) (i := (xk : Int)) ⟨by omega, by rw [← Gs.unm_len]; omega⟩) (fun v11 w11 D11 => ?_)
        obtain ⟨N11, U11⟩ := D11
        have own_p_o := own_p
        replace h_bp := U11.get h_bp (fun h => by first | (have := Own.ge own_p_o h; omega) | exact Own.ne_blk own_p_o h_bp (by decide) _ h rfl | exact Own.not_loop own_p_o h_bp (by assumption) _ h rfl | exact Own.not_def own_p_o h_bp _ h rfl | simp_all)
        replace own_p := N11
        replace h_b2 := U11.get h_b2 (fun h => na_own_p_b2 _ h rfl)
        replace h_b1_6 := U11.get h_b1_6 (fun h => na_own_p_b1_6 _ h rfl)
        replace h_b1 := U11.get h_b1 (fun h => na_own_p_b1 _ h rfl)
        replace h_D2 := U11.get h_D2 (fun h => na_own_p_D2 _ h rfl)
        replace h_l2 := U11.get h_l2 (fun h => na_own_p_l2 _ h rfl)
        replace h_b6 := U11.get h_b6 (fun h => na_own_p_b6 _ h rfl)
        replace hF := hF.go U11 (fun i h hs => by first | exact hs | exact .inl hs | exact .inr hs | (have := (Own.ge own_p_o hs).1; omega))
        clear own_p_o
        refine finN h_l2 (fun w12 N12 _ U12 => ?_)
        replace own_p := own_p.upd1 U12 na_own_p_l2
        replace h_bp := U12.get1 h_bp ne_bp_l2
        replace h_b2 := U12.get1 h_b2 ne_b2_l2
        replace h_b1_6 := U12.get1 h_b1_6 ne_b1_6_l2
        replace h_b1 := U12.get1 h_b1 ne_b1_l2
        replace h_D2 := U12.get1 h_D2 ne_D2_l2
        replace h_b6 := U12.get1 h_b6 (Ne.symm ne_l2_b6)
        replace h_l2 := N12
        replace hF := hF.go1 U12 ge_l2
        exact ⟨h_bp, (by rw [Gs.unm_step hx]; first | (rw [if_pos ((Gs.unm_odd hx).1 (by assumption))]; exact own_p) | (rw [if_neg (fun ho => absurd ((Gs.unm_odd hx).2 ho) (by assumption))]; exact own_p)), (by first | (rw [Gs.unmN_T hx ((Gs.unm_odd hx).1 (by assumption))]; exact h_b2) | (rw [Gs.unmN_F hx (fun ho => absurd ((Gs.unm_odd hx).2 ho) (by assumption))]; exact h_b2)), h_b1_6, h_b1, h_D2, h_l2, hF⟩
      · replace own_p := own_p.upd0 U9
        replace h_bp := U9.get0 h_bp
        replace h_b2 := U9.get0 h_b2
        replace h_b1_6 := U9.get0 h_b1_6
        replace h_b1 := U9.get0 h_b1
        replace h_D2 := U9.get0 h_D2
        replace h_l2 := U9.get0 h_l2
        replace h_b6 := U9.get0 h_b6
        replace hF := hF.go0 U9
        try simp only [decide_eq_true_eq, decide_eq_false_iff_not] at h9
        refine condf ?_
        refine finN h_l2 (fun w13 N13 _ U13 => ?_)
        replace own_p := own_p.upd1 U13 na_own_p_l2
        replace h_bp := U13.get1 h_bp ne_bp_l2
        replace h_b2 := U13.get1 h_b2 ne_b2_l2
        replace h_b1_6 := U13.get1 h_b1_6 ne_b1_6_l2
        replace h_b1 := U13.get1 h_b1 ne_b1_l2
        replace h_D2 := U13.get1 h_D2 ne_D2_l2
        replace h_b6 := U13.get1 h_b6 (Ne.symm ne_l2_b6)
        replace h_l2 := N13
        replace hF := hF.go1 U13 ge_l2
        exact ⟨h_bp, (by rw [Gs.unm_step hx]; first | (rw [if_pos ((Gs.unm_odd hx).1 (by assumption))]; exact own_p) | (rw [if_neg (fun ho => absurd ((Gs.unm_odd hx).2 ho) (by assumption))]; exact own_p)), (by first | (rw [Gs.unmN_T hx ((Gs.unm_odd hx).1 (by assumption))]; exact h_b2) | (rw [Gs.unmN_F hx (fun ho => absurd ((Gs.unm_odd hx).2 ho) (by assumption))]; exact h_b2)), h_b1_6, h_b1, h_D2, h_l2, hF⟩
    · exact ⟨h_bp, own_p, h_b2, h_b1_6, h_b1, h_D2, h_l2, hF⟩
    rintro e wE2 ⟨hv, hI | hI⟩
    · obtain ⟨h_bp, own_p, h_b2, h_b1_6, h_b1, h_D2, h_l2, hF⟩ := hI
      refine ⟨hv, .inl ⟨h_l2, fun w14 _ U14 => ?_⟩⟩
      replace own_p := own_p.upd1 U14 na_own_p_l2
      replace h_bp := U14.get1 h_bp ne_bp_l2
      replace h_b2 := U14.get1 h_b2 ne_b2_l2
      replace h_b1_6 := U14.get1 h_b1_6 ne_b1_6_l2
      replace h_b1 := U14.get1 h_b1 ne_b1_l2
      replace h_D2 := U14.get1 h_D2 ne_D2_l2
      replace hF := hF.go1 U14 ge_l2
      refine hJ1 _ _ ?_
      exact ⟨_, (by first | exact g1000000 | rfl), ge_D2, h_D2, h_b2, (by have h5 := own_p; rw [show ((Gs.startsN cs).take (Gs.startsN (Gs.unmC cs ((Gs.startsN cs).take 0))).length) = Gs.startsN cs from List.take_of_length_le (Nat.le_refl _)] at h5; exact h5), hF⟩
    · exact hI.elim
  · obtain ⟨D2, g1000000, ge_D2, h_D2, h_b2, own_p, hF⟩ := hI
    try rw [g1000000]
    refine opv_run (ldC (by kernel_rfl) h_b2 (by rfl)) ?_
    refine leave1 h_D2 (fun w16 _ U16 => ?_)
    replace own_p := own_p.upd1 U16 (by first | assumption | exact Own.ne_blk own_p (by assumption) (by decide) | exact Own.not_loop own_p (by assumption) (by assumption) | exact Own.not_def own_p (by assumption) | exact Own.not_loop own_p (by assumption) (lp3 _))
    replace h_b2 := U16.get1 h_b2 (by first | omega | exact blk_ne (by assumption) (by assumption) (by decide) | exact blk_not_loop (by assumption) (by assumption) (by assumption) | exact Ne.symm (blk_not_loop (by assumption) (by assumption) (by assumption)) | exact blk_not_def (by assumption) (by assumption) | exact Ne.symm (blk_not_def (by assumption) (by assumption)) | exact def_ne_blk (by assumption) (by assumption) | exact Ne.symm (def_ne_blk (by assumption) (by assumption)))
    replace hF := hF.go1 U16 ge_D2
    exact ⟨_, rfl, rfl, own_p, hF⟩

/-- greenscreen/field.Text -/
theorem c_field_Text {r c cur : Int} {A : Option Addr} {n cp bp B0 : Nat} {cs : List Gs.Cell} {w : World} (h_bp : w.heap[bp]? = some (.cells #[.int .i64 r, .int .i64 c, .slice A n cp, .int .i64 cur] 102 (0, 0))) (own_p : Own B0 w 45 5 (.slice A n cp) (rows Gs.cv cs)) (hn : n = cs.length) {page : Int} {f : Gs.Fld} (hN : Gs.cellsN r c = n) (hb : n ≤ 4096) (hp : 0 < n) (hcw : Gs.Cws cs) (hfa : 0 ≤ f.a ∧ f.a ≤ 255) :
    Calls Try.prog 20 #[.pointer (some ⟨bp, 0, none⟩), .int .i64 page, .agg (Gs.fv f).toArray] w fun e w' => e = .returned (.string (runesBytes (Gs.textM page cs f))) ∧ Upd no w w' := by
  refine F20.calls ?_
  unfold F20
  subst hn
  have hple := Gs.places_le cs.length f
  have lt_h_bp := lt_get h_bp
  have lt_own_p := Own.lt own_p
  have hF : Upd no w w := Fr.refl _ _ _
  refine box_intro (by rfl) (fun b1 w1 e1 h_b1 _ U1 => ?_)
  have ne_bp_b1 : bp ≠ b1 := by have := lt_get h_bp; omega
  have na_own_p_b1 := own_p.apart e1
  have ge_b1 : w.heap.size ≤ b1 := by have := hF.size; omega
  replace own_p := own_p.upd0 U1
  replace h_bp := U1.get0 h_bp
  replace hF := hF.go0 U1
  clear e1
  refine box_intro (by rfl) (fun b2 w2 e2 h_b2 _ U2 => ?_)
  have ne_bp_b2 : bp ≠ b2 := by have := lt_get h_bp; omega
  have na_own_p_b2 := own_p.apart e2
  have ne_b1_b2 : b1 ≠ b2 := by have := lt_get h_b1; omega
  have ge_b2 : w.heap.size ≤ b2 := by have := hF.size; omega
  replace own_p := own_p.upd0 U2
  replace h_bp := U2.get0 h_bp
  replace h_b1 := U2.get0 h_b1
  replace hF := hF.go0 U2
  clear e2
  refine box_intro (cs := (Gs.fv f).toArray) (by rfl) (fun b3 w3 e3 h_b3 _ U3 => ?_)
  have ne_bp_b3 : bp ≠ b3 := by have := lt_get h_bp; omega
  have na_own_p_b3 := own_p.apart e3
  have ne_b1_b3 : b1 ≠ b3 := by have := lt_get h_b1; omega
  have ne_b2_b3 : b2 ≠ b3 := by have := lt_get h_b2; omega
  have ge_b3 : w.heap.size ≤ b3 := by have := hF.size; omega
  replace own_p := own_p.upd0 U3
  replace h_bp := U3.get0 h_bp
  replace h_b1 := U3.get0 h_b1
  replace h_b2 := U3.get0 h_b2
  replace hF := hF.go0 U3
  clear e3
  refine join_cut (fun g w' => (g 1000000 = undef) ∧ (¬ f.a / 4 % 4 = 3) ∧ (w'.heap[b1]? = some (.cells #[.pointer (some ⟨bp, 0, none⟩)] 26 (0, 0))) ∧ (w'.heap[b2]? = some (.cells #[.int .i64 page] 3 (0, 0))) ∧ (w'.heap[b3]? = some (.cells (Gs.fv f).toArray 39 (0, 0))) ∧ (w'.heap[bp]? = some (.cells #[.int .i64 r, .int .i64 c, .slice A cs.length cp, .int .i64 cur] 102 (0, 0))) ∧ (Own B0 w' 45 5 (.slice A cs.length cp) (rows Gs.cv cs)) ∧ (Upd no w w')) (fun J1 hJ1 => ?_) (fun gJ1 wJ1 hI => ?_)
  · refine opv_run (fieldAt_eq (off := 2) (by kernel_rfl)) ?_
    refine opv_run (ldC (by kernel_rfl) h_b3 (by rfl)) ?_
    refine callF_val (c_attr_Shown hfa) (fun w4 U4 => ?_)
    replace own_p := own_p.upd0 U4
    replace h_bp := U4.get0 h_bp
    replace h_b1 := U4.get0 h_b1
    replace h_b2 := U4.get0 h_b2
    replace h_b3 := U4.get0 h_b3
    replace hF := hF.go0 U4
    refine opv_dec (eqI _ _ _ _ _) (fun h5 => ?_) (fun h5 => ?_)
    · refine condt ?_
      refine alloc_intro (cs := #[.int .i64 0]) (by kernel_rfl) (fun b6 w6 e6 h_b6 _ U6 => ?_)
      have ne_bp_b6 : bp ≠ b6 := by have := lt_get h_bp; omega
      have na_own_p_b6 := own_p.apart e6
      have ne_b1_b6 : b1 ≠ b6 := by have := lt_get h_b1; omega
      have ne_b2_b6 : b2 ≠ b6 := by have := lt_get h_b2; omega
      have ne_b3_b6 : b3 ≠ b6 := by have := lt_get h_b3; omega
      have ge_b6 : w.heap.size ≤ b6 := by have := hF.size; omega
      replace own_p := own_p.upd0 U6
      replace h_bp := U6.get0 h_bp
      replace h_b1 := U6.get0 h_b1
      replace h_b2 := U6.get0 h_b2
      replace h_b3 := U6.get0 h_b3
      replace hF := hF.go0 U6
      clear e6
      refine store1_intro (by kernel_rfl) rfl rfl h_b6 (by first | exact Nat.le_of_ble_eq_true rfl | (simp; done) | omega | (simp [vals_length, *]; done) | (simp [vals_length, *]; omega)) (by first | (simp [vals_set]; rfl) | rfl) (fun w7 N7 _ U7 => ?_)
      replace own_p := own_p.upd1 U7 na_own_p_b6
      replace h_bp := U7.get1 h_bp ne_bp_b6
      replace h_b1 := U7.get1 h_b1 ne_b1_b6
      replace h_b2 := U7.get1 h_b2 ne_b2_b6
      replace h_b3 := U7.get1 h_b3 ne_b3_b6
      replace h_b6 := N7
      replace hF := hF.go1 U7 ge_b6
      refine join_cut (fun g w' => ∃ (D3 : Nat), (g 1000000 = mkV D3 undef) ∧ (w.heap.size ≤ D3) ∧ (w'.heap[D3]? = some (.deferred (some []))) ∧ (w'.heap[b6]? = some (.cells #[.int .i64 ((Gs.placesL cs.length f).length : Nat)] 3 (0, 0))) ∧ (Upd no w w')) (fun J2 hJ2 => ?_) (fun gJ2 wJ2 hI => ?_)
      · refine opv_run (ldC (by kernel_rfl) h_b1 (by rfl)) ?_
        refine opv_run (ldA (n := 3) (cs' := (Gs.fv f).toArray) (by kernel_rfl) h_b3 (by first | exact Nat.le_of_ble_eq_true rfl | (simp; done) | omega) (by rfl)) ?_
        refine callF_ex (c_field_Places h_bp own_p rfl (f := f)) (fun v8 w8 D8 => ?_)
        obtain ⟨b1_16, b2_16, rfl, g1_16, g2_16, h_b1_16, h_b2_16, U8⟩ := D8
        have ne_bp_b1_16 : bp ≠ b1_16 := by have := lt_get h_bp; omega
        have na_own_p_b1_16 : ∀ k, ownS _ k → k ≠ b1_16 := fun k hk => by have := (Own.ge own_p hk).2; omega
        have ne_b1_b1_16 : b1 ≠ b1_16 := by have := lt_get h_b1; omega
        have ne_b2_b1_16 : b2 ≠ b1_16 := by have := lt_get h_b2; omega
        have ne_b3_b1_16 : b3 ≠ b1_16 := by have := lt_get h_b3; omega
        have ne_b6_b1_16 : b6 ≠ b1_16 := by have := lt_get h_b6; omega
        have ge_b1_16 : w.heap.size ≤ b1_16 := by have := hF.size; omega
        have ne_bp_b2_16 : bp ≠ b2_16 := by have := lt_get h_bp; omega
        have na_own_p_b2_16 : ∀ k, ownS _ k → k ≠ b2_16 := fun k hk => by have := (Own.ge own_p hk).2; omega
        have ne_b1_b2_16 : b1 ≠ b2_16 := by have := lt_get h_b1; omega
        have ne_b2_b2_16 : b2 ≠ b2_16 := by have := lt_get h_b2; omega
        have ne_b3_b2_16 : b3 ≠ b2_16 := by have := lt_get h_b3; omega
        have ne_b6_b2_16 : b6 ≠ b2_16 := by have := lt_get h_b6; omega
        have ge_b2_16 : w.heap.size ≤ b2_16 := by have := hF.size; omega
        replace own_p := own_p.upd0 U8
        replace h_bp := U8.get0 h_bp
        replace h_b1 := U8.get0 h_b1
        replace h_b2 := U8.get0 h_b2
        replace h_b3 := U8.get0 h_b3
        replace h_b6 := U8.get0 h_b6
        replace hF := hF.go0 U8
        refine rangeF_i (by kernel_rfl) (fun w9 l3 D3 Rdy3 Bsy3 Dn3 y3 eD el h_D3 h_l3 lp1 lp2 lp3 sz9 U9 hY => ?_)
        have ne_bp_D3 : bp ≠ D3 := by have := lt_get h_bp; omega
        have ne_bp_l3 : bp ≠ l3 := by have := lt_get h_bp; omega
        have na_own_p_D3 : ∀ k, ownS _ k → k ≠ D3 := fun k hk => by have := (Own.ge own_p hk).2; omega
        have na_own_p_l3 : ∀ k, ownS _ k → k ≠ l3 := fun k hk => by have := (Own.ge own_p hk).2; omega
        have ne_b1_D3 : b1 ≠ D3 := by have := lt_get h_b1; omega
        have ne_b1_l3 : b1 ≠ l3 := by have := lt_get h_b1; omega
        have ne_b2_D3 : b2 ≠ D3 := by have := lt_get h_b2; omega
        have ne_b2_l3 : b2 ≠ l3 := by have := lt_get h_b2; omega
        have ne_b3_D3 : b3 ≠ D3 := by have := lt_get h_b3; omega
        have ne_b3_l3 : b3 ≠ l3 := by have := lt_get h_b3; omega
        have ne_b6_D3 : b6 ≠ D3 := by have := lt_get h_b6; omega
        have ne_b6_l3 : b6 ≠ l3 := by have := lt_get h_b6; omega
        have ne_b1_16_D3 : b1_16 ≠ D3 := by have := lt_get h_b1_16; omega
        have ne_b1_16_l3 : b1_16 ≠ l3 := by have := lt_get h_b1_16; omega
        have ne_b2_16_D3 : b2_16 ≠ D3 := by have := lt_get h_b2_16; omega
        have ne_b2_16_l3 : b2_16 ≠ l3 := by have := lt_get h_b2_16; omega
        have ge_D3 : w.heap.size ≤ D3 := by have := hF.size; omega
        have ge_l3 : w.heap.size ≤ l3 := by have := hF.size; omega
        have ne_D3_l3 : D3 ≠ l3 := by omega
        replace own_p := own_p.upd0 U9
        replace h_bp := U9.get0 h_bp
        replace h_b1 := U9.get0 h_b1
        replace h_b2 := U9.get0 h_b2
        replace h_b3 := U9.get0 h_b3
        replace h_b6 := U9.get0 h_b6
        replace h_b1_16 := U9.get0 h_b1_16
        replace h_b2_16 := U9.get0 h_b2_16
        replace hF := hF.go0 U9
        refine Calls.mono (c_field_Places_1 (b1 := b1_16) (b2 := b2_16) (J := (fun (k : Nat) (w' : World) => (w'.heap[b6]? = some (.cells #[.int .i64 (k : Nat)] 3 (0, 0))) ∧ (w'.heap[bp]? = some (.cells #[.int .i64 r, .int .i64 c, .slice A cs.length cp, .int .i64 cur] 102 (0, 0))) ∧ (Own B0 w' 45 5 (.slice A cs.length cp) (rows Gs.cv cs)) ∧ (w'.heap[b1_16]? = some (.cells #[.pointer (some ⟨bp, 0, none⟩)] 26 (0, 0))) ∧ (w'.heap[b2_16]? = some (.cells (Gs.fv f).toArray 39 (0, 0))) ∧ (w'.heap[D3]? = some (.deferred (some []))) ∧ (w'.heap[l3]? = some Rdy3) ∧ (Upd no w w'))) (X := (fun _ => False)) (fun k w' hJ => by obtain ⟨h_b6, h_bp, own_p, h_b1_16, h_b2_16, h_D3, h_l3, hF⟩ := hJ; exact ⟨h_b1_16, h_b2_16, h_bp, own_p⟩) (fun k w' w'' hJ U' => by obtain ⟨h_b6, h_bp, own_p, h_b1_16, h_b2_16, h_D3, h_l3, hF⟩ := hJ; exact ⟨U'.get0 h_b6, U'.get0 h_bp, own_p.upd0 U', U'.get0 h_b1_16, U'.get0 h_b2_16, U'.get0 h_D3, U'.get0 h_l3, hF.go0 U'⟩) (fun _ _ h _ => h.elim) (fun _ h => h.elim) rfl hN hb ?_ ?_) ?_
        · intro k wl3 xk hx hI
          obtain ⟨h_b6, h_bp, own_p, h_b1_16, h_b2_16, h_D3, h_l3, hF⟩ := hI
          have hk := (List.getElem?_eq_some_iff.1 hx).1
          refine hY [.int .i64 xk] _ _ rfl h_l3 ?_
          try simp only [List.getD_cons_zero, List.getD_cons_succ]
          refine midR_i h_l3 (fun w10 N10 _ U10 => ?_)
          replace own_p := own_p.upd1 U10 na_own_p_l3
          replace h_b6 := U10.get1 h_b6 ne_b6_l3
          replace h_bp := U10.get1 h_bp ne_bp_l3
          replace h_b1_16 := U10.get1 h_b1_16 ne_b1_16_l3
          replace h_b2_16 := U10.get1 h_b2_16 ne_b2_16_l3
          replace h_D3 := U10.get1 h_D3 ne_D3_l3
          replace h_l3 := N10
          replace hF := hF.go1 U10 ge_l3
          refine opv_run (ldC (by kernel_rfl) h_b6 (by rfl)) ?_
          first | refine opv_run (add_i64 _ (by omega)) ?_ | refine opv_run (addI _ _ _ _) ?_
          refine store1_intro (by kernel_rfl) rfl rfl h_b6 (by first | exact Nat.le_of_ble_eq_true rfl | (simp; done) | omega | (simp [vals_length, *]; done) | (simp [vals_length, *]; omega)) (by first | (simp [vals_set]; rfl) | rfl) (fun w11 N11 _ U11 => ?_)
          replace own_p := own_p.upd1 U11 na_own_p_b6
          replace h_bp := U11.get1 h_bp ne_bp_b6
          replace h_b1_16 := U11.get1 h_b1_16 (Ne.symm ne_b6_b1_16)
          replace h_b2_16 := U11.get1 h_b2_16 (Ne.symm ne_b6_b2_16)
          replace h_D3 := U11.get1 h_D3 (Ne.symm ne_b6_D3)
          replace h_l3 := U11.get1 h_l3 (Ne.symm ne_b6_l3)
          replace h_b6 := N11
          replace hF := hF.go1 U11 ge_b6
          refine finN h_l3 (fun w12 N12 _ U12 => ?_)
          replace own_p := own_p.upd1 U12 na_own_p_l3
          replace h_b6 := U12.get1 h_b6 ne_b6_l3
          replace h_bp := U12.get1 h_bp ne_bp_l3
          replace h_b1_16 := U12.get1 h_b1_16 ne_b1_16_l3
          replace h_b2_16 := U12.get1 h_b2_16 ne_b2_16_l3
          replace h_D3 := U12.get1 h_D3 ne_D3_l3
          replace h_l3 := N12
          replace hF := hF.go1 U12 ge_l3
          exact ⟨h_b6, h_bp, own_p, h_b1_16, h_b2_16, h_D3, h_l3, hF⟩
        · exact ⟨h_b6, h_bp, own_p, h_b1_16, h_b2_16, h_D3, h_l3, hF⟩
        rintro e wE3 ⟨hv, hI | hI⟩
        · obtain ⟨h_b6, h_bp, own_p, h_b1_16, h_b2_16, h_D3, h_l3, hF⟩ := hI
          refine ⟨hv, .inl ⟨h_l3, fun w13 _ U13 => ?_⟩⟩
          replace own_p := own_p.upd1 U13 na_own_p_l3
          replace h_b6 := U13.get1 h_b6 ne_b6_l3
          replace h_bp := U13.get1 h_bp ne_bp_l3
          replace h_b1_16 := U13.get1 h_b1_16 ne_b1_16_l3
          replace h_b2_16 := U13.get1 h_b2_16 ne_b2_16_l3
          replace h_D3 := U13.get1 h_D3 ne_D3_l3
          replace hF := hF.go1 U13 ge_l3
          refine hJ2 _ _ ?_
          exact ⟨_, (by first | exact g1000000 | rfl), ge_D3, h_D3, h_b6, hF⟩
        · exact hI.elim
      · obtain ⟨D3, g1000000, ge_D3, h_D3, h_b6, hF⟩ := hI
        try rw [g1000000]
        refine opv_run (ldC (by kernel_rfl) h_b6 (by rfl)) ?_
        refine callF_val (c_Repeat (c := (Gs.placesL cs.length f).length) (by omega)) (fun w14 U14 => ?_)
        replace h_D3 := U14.get0 h_D3
        replace h_b6 := U14.get0 h_b6
        replace hF := hF.go0 U14
        rw [← Gs.textM_3 (page := page) (cs := cs) (by assumption)]
        refine leave1 h_D3 (fun w16 _ U16 => ?_)
        replace h_b6 := U16.get1 h_b6 (by first | omega | exact blk_ne (by assumption) (by assumption) (by decide) | exact blk_not_loop (by assumption) (by assumption) (by assumption) | exact Ne.symm (blk_not_loop (by assumption) (by assumption) (by assumption)) | exact blk_not_def (by assumption) (by assumption) | exact Ne.symm (blk_not_def (by assumption) (by assumption)) | exact def_ne_blk (by assumption) (by assumption) | exact Ne.symm (def_ne_blk (by assumption) (by assumption)))
        replace hF := hF.go1 U16 ge_D3
        first | exact ⟨rfl, hF⟩ | (rw [Gs.text_done (page := page) (f := f)]; exact ⟨rfl, hF⟩)
    · refine condf ?_
      refine hJ1 _ _ ?_
      exact ⟨rfl, (by assumption), h_b1, h_b2, h_b3, h_bp, own_p, hF⟩
  · obtain ⟨g1000000, hna, h_b1, h_b2, h_b3, h_bp, own_p, hF⟩ := hI
    try rw [g1000000]
    refine alloc_intro (cs := #[.pointer none, .slice none 0 0]) (by kernel_rfl) (fun b17 w17 e17 h_b17 _ U17 => ?_)
    have ne_b1_b17 : b1 ≠ b17 := by have := lt_get h_b1; omega
    have ne_b2_b17 : b2 ≠ b17 := by have := lt_get h_b2; omega
    have ne_b3_b17 : b3 ≠ b17 := by have := lt_get h_b3; omega
    have ne_bp_b17 : bp ≠ b17 := by have := lt_get h_bp; omega
    have na_own_p_b17 := own_p.apart e17
    have ge_b17 : w.heap.size ≤ b17 := by have := hF.size; omega
    replace own_p := own_p.upd0 U17
    replace h_b1 := U17.get0 h_b1
    replace h_b2 := U17.get0 h_b2
    replace h_b3 := U17.get0 h_b3
    replace h_bp := U17.get0 h_bp
    replace hF := hF.go0 U17
    clear e17
    refine join_cut (fun g w' => ∃ (D5 : Nat) (v8 : Value), (g 1000000 = mkV D5 undef) ∧ (w.heap.size ≤ D5) ∧ (w'.heap[D5]? = some (.deferred (some []))) ∧ (Bld w.heap.size w' b17 v8 (Lib.byteCells (runesBytes ((Gs.textM page cs f).take (Gs.placesL cs.length f).length)).data.toList)) ∧ (Upd no w w')) (fun J4 hJ4 => ?_) (fun gJ4 wJ4 hI => ?_)
    · refine opv_run (ldC (by kernel_rfl) h_b1 (by rfl)) ?_
      refine opv_run (ldA (n := 3) (cs' := (Gs.fv f).toArray) (by kernel_rfl) h_b3 (by first | exact Nat.le_of_ble_eq_true rfl | (simp; done) | omega) (by rfl)) ?_
      refine callF_ex (c_field_Places h_bp own_p rfl (f := f)) (fun v18 w18 D18 => ?_)
      obtain ⟨b1_24, b2_24, rfl, g1_24, g2_24, h_b1_24, h_b2_24, U18⟩ := D18
      have ne_b1_b1_24 : b1 ≠ b1_24 := by have := lt_get h_b1; omega
      have ne_b2_b1_24 : b2 ≠ b1_24 := by have := lt_get h_b2; omega
      have ne_b3_b1_24 : b3 ≠ b1_24 := by have := lt_get h_b3; omega
      have ne_bp_b1_24 : bp ≠ b1_24 := by have := lt_get h_bp; omega
      have na_own_p_b1_24 : ∀ k, ownS _ k → k ≠ b1_24 := fun k hk => by have := (Own.ge own_p hk).2; omega
      have ne_b17_b1_24 : b17 ≠ b1_24 := by have := lt_get h_b17; omega
      have ge_b1_24 : w.heap.size ≤ b1_24 := by have := hF.size; omega
      have ne_b1_b2_24 : b1 ≠ b2_24 := by have := lt_get h_b1; omega
      have ne_b2_b2_24 : b2 ≠ b2_24 := by have := lt_get h_b2; omega
      have ne_b3_b2_24 : b3 ≠ b2_24 := by have := lt_get h_b3; omega
      have ne_bp_b2_24 : bp ≠ b2_24 := by have := lt_get h_bp; omega
      have na_own_p_b2_24 : ∀ k, ownS _ k → k ≠ b2_24 := fun k hk => by have := (Own.ge own_p hk).2; omega
      have ne_b17_b2_24 : b17 ≠ b2_24 := by have := lt_get h_b17; omega
      have ge_b2_24 : w.heap.size ≤ b2_24 := by have := hF.size; omega
      replace own_p := own_p.upd0 U18
      replace h_b1 := U18.get0 h_b1
      replace h_b2 := U18.get0 h_b2
      replace h_b3 := U18.get0 h_b3
      replace h_bp := U18.get0 h_bp
      replace h_b17 := U18.get0 h_b17
      replace hF := hF.go0 U18
      refine rangeF_i (by kernel_rfl) (fun w19 l5 D5 Rdy5 Bsy5 Dn5 y5 eD el h_D5 h_l5 lp1 lp2 lp3 sz19 U19 hY => ?_)
      have ne_b1_D5 : b1 ≠ D5 := by have := lt_get h_b1; omega
      have ne_b1_l5 : b1 ≠ l5 := by have := lt_get h_b1; omega
      have ne_b2_D5 : b2 ≠ D5 := by have := lt_get h_b2; omega
      have ne_b2_l5 : b2 ≠ l5 := by have := lt_get h_b2; omega
      have ne_b3_D5 : b3 ≠ D5 := by have := lt_get h_b3; omega
      have ne_b3_l5 : b3 ≠ l5 := by have := lt_get h_b3; omega
      have ne_bp_D5 : bp ≠ D5 := by have := lt_get h_bp; omega
      have ne_bp_l5 : bp ≠ l5 := by have := lt_get h_bp; omega
      have na_own_p_D5 : ∀ k, ownS _ k → k ≠ D5 := fun k hk => by have := (Own.ge own_p hk).2; omega
      have na_own_p_l5 : ∀ k, ownS _ k → k ≠ l5 := fun k hk => by have := (Own.ge own_p hk).2; omega
      have ne_b17_D5 : b17 ≠ D5 := by have := lt_get h_b17; omega
      have ne_b17_l5 : b17 ≠ l5 := by have := lt_get h_b17; omega
      have ne_b1_24_D5 : b1_24 ≠ D5 := by have := lt_get h_b1_24; omega
      have ne_b1_24_l5 : b1_24 ≠ l5 := by have := lt_get h_b1_24; omega
      have ne_b2_24_D5 : b2_24 ≠ D5 := by have := lt_get h_b2_24; omega
      have ne_b2_24_l5 : b2_24 ≠ l5 := by have := lt_get h_b2_24; omega
      have ge_D5 : w.heap.size ≤ D5 := by have := hF.size; omega
      have ge_l5 : w.heap.size ≤ l5 := by have := hF.size; omega
      have ne_D5_l5 : D5 ≠ l5 := by omega
      replace own_p := own_p.upd0 U19
      replace h_b1 := U19.get0 h_b1
      replace h_b2 := U19.get0 h_b2
      replace h_b3 := U19.get0 h_b3
      replace h_bp := U19.get0 h_bp
      replace h_b17 := U19.get0 h_b17
      replace h_b1_24 := U19.get0 h_b1_24
      replace h_b2_24 := U19.get0 h_b2_24
      replace hF := hF.go0 U19
      refine Calls.mono (c_field_Places_1 (b1 := b1_24) (b2 := b2_24) (J := (fun (k : Nat) (w' : World) => ∃ (v8 : Value), (Bld w.heap.size w' b17 v8 (Lib.byteCells (runesBytes ((Gs.textM page cs f).take k)).data.toList)) ∧ (w'.heap[b1]? = some (.cells #[.pointer (some ⟨bp, 0, none⟩)] 26 (0, 0))) ∧ (w'.heap[b2]? = some (.cells #[.int .i64 page] 3 (0, 0))) ∧ (w'.heap[bp]? = some (.cells #[.int .i64 r, .int .i64 c, .slice A cs.length cp, .int .i64 cur] 102 (0, 0))) ∧ (Own B0 w' 45 5 (.slice A cs.length cp) (rows Gs.cv cs)) ∧ (w'.heap[b1_24]? = some (.cells #[.pointer (some ⟨bp, 0, none⟩)] 26 (0, 0))) ∧ (w'.heap[b2_24]? = some (.cells (Gs.fv f).toArray 39 (0, 0))) ∧ (w'.heap[D5]? = some (.deferred (some []))) ∧ (w'.heap[l5]? = some Rdy5) ∧ (Upd no w w'))) (X := (fun _ => False)) (fun k w' hJ => by obtain ⟨v8, bld8, h_b1, h_b2, h_bp, own_p, h_b1_24, h_b2_24, h_D5, h_l5, hF⟩ := hJ; exact ⟨h_b1_24, h_b2_24, h_bp, own_p⟩) (fun k w' w'' hJ U' => by obtain ⟨v8, bld8, h_b1, h_b2, h_bp, own_p, h_b1_24, h_b2_24, h_D5, h_l5, hF⟩ := hJ; exact ⟨v8, bld8.upd0 U', U'.get0 h_b1, U'.get0 h_b2, U'.get0 h_bp, own_p.upd0 U', U'.get0 h_b1_24, U'.get0 h_b2_24, U'.get0 h_D5, U'.get0 h_l5, hF.go0 U'⟩) (fun _ _ h _ => h.elim) (fun _ h => h.elim) rfl hN hb ?_ ?_) ?_
      · intro k wl5 xk hx hI
        obtain ⟨v8, bld8, h_b1, h_b2, h_bp, own_p, h_b1_24, h_b2_24, h_D5, h_l5, hF⟩ := hI
        have hk := (List.getElem?_eq_some_iff.1 hx).1
        have hxb := Gs.places_get hx
        have htz := Gs.text_take_size (page := page) (Nat.le_of_lt hk) hb
        refine hY [.int .i64 xk] _ _ rfl h_l5 ?_
        try simp only [List.getD_cons_zero, List.getD_cons_succ]
        refine midR_i h_l5 (fun w20 N20 _ U20 => ?_)
        replace bld8 := bld8.upd1 U20 (by first | assumption | exact Bld.not_loop bld8 (by assumption) (by assumption) | exact Bld.not_def bld8 (by assumption) | exact Bld.not_loop bld8 (by assumption) (lp3 _))
        replace own_p := own_p.upd1 U20 na_own_p_l5
        replace h_b1 := U20.get1 h_b1 ne_b1_l5
        replace h_b2 := U20.get1 h_b2 ne_b2_l5
        replace h_bp := U20.get1 h_bp ne_bp_l5
        replace h_b1_24 := U20.get1 h_b1_24 ne_b1_24_l5
        replace h_b2_24 := U20.get1 h_b2_24 ne_b2_24_l5
        replace h_D5 := U20.get1 h_D5 ne_D5_l5
        replace h_l5 := N20
        replace hF := hF.go1 U20 ge_l5
        refine opv_run (ldC (by kernel_rfl) h_b1 (by rfl)) ?_
        refine opv_run (ldC (by kernel_rfl) h_b2 (by rfl)) ?_
        refine callF_val (c_Plane_Text h_bp own_p rfl (page := page) (f := xk) (m := 1) hcw hp hb) (fun w21 U21 => ?_)
        replace bld8 := bld8.upd0 U21
        replace own_p := own_p.upd0 U21
        replace h_b1 := U21.get0 h_b1
        replace h_b2 := U21.get0 h_b2
        replace h_bp := U21.get0 h_bp
        replace h_b1_24 := U21.get0 h_b1_24
        replace h_b2_24 := U21.get0 h_b2_24
        replace h_D5 := U21.get0 h_D5
        replace h_l5 := U21.get0 h_l5
        replace hF := hF.go0 U21
        have hts := Gs.text_size page cs xk 1
        refine callF_ex (c_WriteString bld8 (by omega) (by omega) (by have := hF.size; omega)) (fun x22 w22 D22 => ?_)
        obtain ⟨vb22, N22, U22⟩ := D22
        have bld8_o := bld8
        replace own_p := own_p.updS U22 (fun k hk hs => Or.elim hs (fun e => absurd e (na_own_p_b17 k hk)) (fun h => by have := lt_own_p k hk; have := Bld.ge bld8_o h; omega))
        replace h_b1 := U22.get h_b1 (fun hs => Or.elim hs (fun e => absurd e ne_b1_b17) (fun h => by first | (have := Bld.ge bld8_o h; omega) | exact Own.ne_blk bld8_o.2.1 h_b1 (by decide) _ h rfl | exact Own.not_loop bld8_o.2.1 h_b1 (by assumption) _ h rfl | exact Own.not_def bld8_o.2.1 h_b1 _ h rfl))
        replace h_b2 := U22.get h_b2 (fun hs => Or.elim hs (fun e => absurd e ne_b2_b17) (fun h => by first | (have := Bld.ge bld8_o h; omega) | exact Own.ne_blk bld8_o.2.1 h_b2 (by decide) _ h rfl | exact Own.not_loop bld8_o.2.1 h_b2 (by assumption) _ h rfl | exact Own.not_def bld8_o.2.1 h_b2 _ h rfl))
        replace h_bp := U22.get h_bp (fun hs => Or.elim hs (fun e => absurd e ne_bp_b17) (fun h => by first | (have := Bld.ge bld8_o h; omega) | exact Own.ne_blk bld8_o.2.1 h_bp (by decide) _ h rfl | exact Own.not_loop bld8_o.2.1 h_bp (by assumption) _ h rfl | exact Own.not_def bld8_o.2.1 h_bp _ h rfl))
        replace h_b1_24 := U22.get h_b1_24 (fun hs => Or.elim hs (fun e => absurd e (Ne.symm ne_b17_b1_24)) (fun h => by first | (have := Bld.ge bld8_o h; omega) | exact Own.ne_blk bld8_o.2.1 h_b1_24 (by decide) _ h rfl | exact Own.not_loop bld8_o.2.1 h_b1_24 (by assumption) _ h rfl | exact Own.not_def bld8_o.2.1 h_b1_24 _ h rfl))
        replace h_b2_24 := U22.get h_b2_24 (fun hs => Or.elim hs (fun e => absurd e (Ne.symm ne_b17_b2_24)) (fun h => by first | (have := Bld.ge bld8_o h; omega) | exact Own.ne_blk bld8_o.2.1 h_b2_24 (by decide) _ h rfl | exact Own.not_loop bld8_o.2.1 h_b2_24 (by assumption) _ h rfl | exact Own.not_def bld8_o.2.1 h_b2_24 _ h rfl))
        replace h_D5 := U22.get h_D5 (fun hs => Or.elim hs (fun e => absurd e (Ne.symm ne_b17_D5)) (fun h => by first | (have := Bld.ge bld8_o h; omega) | exact Own.ne_blk bld8_o.2.1 h_D5 (by decide) _ h rfl | exact Own.not_loop bld8_o.2.1 h_D5 (by assumption) _ h rfl | exact Own.not_def bld8_o.2.1 h_D5 _ h rfl))
        replace h_l5 := U22.get h_l5 (fun hs => Or.elim hs (fun e => absurd e (Ne.symm ne_b17_l5)) (fun h => by first | (have := Bld.ge bld8_o h; omega) | exact Own.ne_blk bld8_o.2.1 h_l5 (by decide) _ h rfl | exact Own.not_loop bld8_o.2.1 h_l5 (by assumption) _ h rfl | exact Own.not_def bld8_o.2.1 h_l5 _ h rfl))
        replace hF := hF.go U22 (fun i h hs => Or.elim hs (fun e => by have := ge_b17; omega) (fun h => by have := Bld.ge bld8_o h; omega))
        replace bld8 := N22
        clear bld8_o
        refine finN h_l5 (fun w23 N23 _ U23 => ?_)
        replace bld8 := bld8.upd1 U23 (by first | assumption | exact Bld.not_loop bld8 (by assumption) (by assumption) | exact Bld.not_def bld8 (by assumption) | exact Bld.not_loop bld8 (by assumption) (lp3 _))
        replace own_p := own_p.upd1 U23 na_own_p_l5
        replace h_b1 := U23.get1 h_b1 ne_b1_l5
        replace h_b2 := U23.get1 h_b2 ne_b2_l5
        replace h_bp := U23.get1 h_bp ne_bp_l5
        replace h_b1_24 := U23.get1 h_b1_24 ne_b1_24_l5
        replace h_b2_24 := U23.get1 h_b2_24 ne_b2_24_l5
        replace h_D5 := U23.get1 h_D5 ne_D5_l5
        replace h_l5 := N23
        replace hF := hF.go1 U23 ge_l5
        exact ⟨_, (by rw [← Gs.textM_step hx hna]; exact bld8), h_b1, h_b2, h_bp, own_p, h_b1_24, h_b2_24, h_D5, h_l5, hF⟩
      · exact ⟨_, (Bld.new h_b17 _), h_b1, h_b2, h_bp, own_p, h_b1_24, h_b2_24, h_D5, h_l5, hF⟩
      rintro e wE5 ⟨hv, hI | hI⟩
      · obtain ⟨v8, bld8, h_b1, h_b2, h_bp, own_p, h_b1_24, h_b2_24, h_D5, h_l5, hF⟩ := hI
        refine ⟨hv, .inl ⟨h_l5, fun w24 _ U24 => ?_⟩⟩
        replace bld8 := bld8.upd1 U24 (by first | assumption | exact Bld.not_loop bld8 (by assumption) (by assumption) | exact Bld.not_def bld8 (by assumption) | exact Bld.not_loop bld8 (by assumption) (lp3 _))
        replace own_p := own_p.upd1 U24 na_own_p_l5
        replace h_b1 := U24.get1 h_b1 ne_b1_l5
        replace h_b2 := U24.get1 h_b2 ne_b2_l5
        replace h_bp := U24.get1 h_bp ne_bp_l5
        replace h_b1_24 := U24.get1 h_b1_24 ne_b1_24_l5
        replace h_b2_24 := U24.get1 h_b2_24 ne_b2_24_l5
        replace h_D5 := U24.get1 h_D5 ne_D5_l5
        replace hF := hF.go1 U24 ge_l5
        refine hJ4 _ _ ?_
        exact ⟨_, _, rfl, ge_D5, h_D5, bld8, hF⟩
      · exact hI.elim
    · obtain ⟨D5, v8, g1000000, ge_D5, h_D5, bld8, hF⟩ := hI
      try rw [g1000000]
      have htz := Gs.text_take_size (page := page) (f := f) (Nat.le_refl _) hb
      refine callF_val (c_StringU bld8 (by omega)) (fun w25 U25 => ?_)
      replace h_D5 := U25.get h_D5 (fun h => Bld.not_def bld8 h_D5 _ (.inr h) rfl)
      replace hF := hF.go U25 (fun i h hs => by have := Bld.ge bld8 hs; omega)
      clear bld8
      refine leave1 h_D5 (fun w27 _ U27 => ?_)
      replace hF := hF.go1 U27 ge_D5
      first | exact ⟨rfl, hF⟩ | (rw [Gs.text_done (page := page) (f := f)]; exact ⟨rfl, hF⟩)

end Go.Proofs.Ytojcbhkhfcddnaa
