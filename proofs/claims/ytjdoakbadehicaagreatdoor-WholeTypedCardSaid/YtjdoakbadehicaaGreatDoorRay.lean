/-
  Contracts of functions of the program, walked over their shallow forms. No condition but the ones that each states.
-/
import Derived.Test.YtjdoakbadehicaaGreatDoorRa
namespace Go.Proofs.YtjdoakbadehicaaGreatDoor
open Go Go.Sh
set_option linter.unusedVariables false
set_option maxRecDepth 100000


set_option maxHeartbeats 2000000 in
/-- greenscreen/reply.fields -/
theorem c_rp_fields {r c cur : Int} {A : Option Addr} {n cp bp B0 : Nat} {cs : List Gs.Cell} {w : World} (h_bp : w.heap[bp]? = some (.cells #[.int .i64 r, .int .i64 c, .slice A n cp, .int .i64 cur] 91 (0, 0))) (own_p : Own B0 w 37 5 (.slice A n cp) (rows Gs.cv cs)) (hn : n = cs.length) (hN : Gs.cellsN r c = n) (hb : n ≤ 4096) (hcw : Gs.Cws cs)  :
    Calls Tryz.prog 98 #[.pointer (some ⟨bp, 0, none⟩)] w fun e w' => ∃ v, e = .returned v ∧ Own w.heap.size w' 5 1 v (vals .u8 (Gs.outF cs (Gs.startsN cs).length)) ∧ Upd no w w' := by
  refine F98.calls ?_
  unfold F98
  subst hn
  have lt_h_bp := lt_get h_bp
  have lt_own_p := Own.lt own_p
  have hF : Upd no w w := Fr.refl _ _ _
  refine box_intro (by rfl) (fun b1 w1 e1 h_b1 _ U1 => ?_)
  have ne_bp_b1 : bp ≠ b1 := by have := lt_get h_bp; omega
  have na_own_p_b1 := own_p.apart e1
  have ge_b1 : w.heap.size ≤ b1 := by have := hF.size; omega
  replace own_p := own_p.upd0 U1
  replace h_bp := U1.get0 h_bp
  replace hF := hF.go0 U1
  clear e1
  refine alloc_intro (cs := #[.slice none 0 0]) (by kernel_rfl) (fun b2 w2 e2 h_b2 _ U2 => ?_)
  have ne_bp_b2 : bp ≠ b2 := by have := lt_get h_bp; omega
  have na_own_p_b2 := own_p.apart e2
  have ne_b1_b2 : b1 ≠ b2 := by have := lt_get h_b1; omega
  have ge_b2 : w.heap.size ≤ b2 := by have := hF.size; omega
  replace own_p := own_p.upd0 U2
  replace h_bp := U2.get0 h_bp
  replace h_b1 := U2.get0 h_b1
  replace hF := hF.go0 U2
  clear e2
  refine join_cut (fun g w' => ∃ (D2 : Nat) (v3 : Value), (g 1000000 = mkV D2 undef) ∧ (w.heap.size ≤ D2) ∧ (w'.heap[D2]? = some (.deferred (some []))) ∧ (w'.heap[b2]? = some (.cells #[v3] 24 (0, 0))) ∧ (Own w.heap.size w' 5 1 v3 (vals .u8 (Gs.outF cs (Gs.startsN cs).length))) ∧ (Upd no w w')) (fun J1 hJ1 => ?_) (fun gJ1 wJ1 hI => ?_)
  · refine opv_run (ldC (by kernel_rfl) h_b1 (by rfl)) ?_
    refine callF_ex (c_field_All h_bp own_p rfl) (fun v3 w3 D3 => ?_)
    obtain ⟨b1_8, rfl, g1_8, h_b1_8, U3⟩ := D3
    have ne_bp_b1_8 : bp ≠ b1_8 := by have := lt_get h_bp; omega
    have na_own_p_b1_8 : ∀ k, ownS _ k → k ≠ b1_8 := fun k hk => by have := (Own.ge own_p hk).2; omega
    have ne_b1_b1_8 : b1 ≠ b1_8 := by have := lt_get h_b1; omega
    have ne_b2_b1_8 : b2 ≠ b1_8 := by have := lt_get h_b2; omega
    have ge_b1_8 : w.heap.size ≤ b1_8 := by have := hF.size; omega
    replace own_p := own_p.upd0 U3
    replace h_bp := U3.get0 h_bp
    replace h_b1 := U3.get0 h_b1
    replace h_b2 := U3.get0 h_b2
    replace hF := hF.go0 U3
    refine rangeF_i (by kernel_rfl) (fun w4 l2 D2 Rdy2 Bsy2 Dn2 y2 eD el h_D2 h_l2 lp1 lp2 lp3 sz4 U4 hY => ?_)
    have lp2_2 := lp2
    have ne_bp_D2 : bp ≠ D2 := by have := lt_get h_bp; omega
    have ne_bp_l2 : bp ≠ l2 := by have := lt_get h_bp; omega
    have na_own_p_D2 : ∀ k, ownS _ k → k ≠ D2 := fun k hk => by have := (Own.ge own_p hk).2; omega
    have na_own_p_l2 : ∀ k, ownS _ k → k ≠ l2 := fun k hk => by have := (Own.ge own_p hk).2; omega
    have ne_b1_D2 : b1 ≠ D2 := by have := lt_get h_b1; omega
    have ne_b1_l2 : b1 ≠ l2 := by have := lt_get h_b1; omega
    have ne_b2_D2 : b2 ≠ D2 := by have := lt_get h_b2; omega
    have ne_b2_l2 : b2 ≠ l2 := by have := lt_get h_b2; omega
    have ne_b1_8_D2 : b1_8 ≠ D2 := by have := lt_get h_b1_8; omega
    have ne_b1_8_l2 : b1_8 ≠ l2 := by have := lt_get h_b1_8; omega
    have ge_D2 : w.heap.size ≤ D2 := by have := hF.size; omega
    have ge_l2 : w.heap.size ≤ l2 := by have := hF.size; omega
    have ne_D2_l2 : D2 ≠ l2 := by omega
    replace own_p := own_p.upd0 U4
    replace h_bp := U4.get0 h_bp
    replace h_b1 := U4.get0 h_b1
    replace h_b2 := U4.get0 h_b2
    replace h_b1_8 := U4.get0 h_b1_8
    replace hF := hF.go0 U4
    refine Calls.mono (c_field_All_1 (b1 := b1_8) (csF := (fun _ => cs)) (J := (fun (k : Nat) (w' : World) => ∃ (v3 : Value), (w'.heap[b2]? = some (.cells #[v3] 24 (0, 0))) ∧ (Own w.heap.size w' 5 1 v3 (vals .u8 (Gs.outF cs k))) ∧ (w'.heap[b1]? = some (.cells #[.pointer (some ⟨bp, 0, none⟩)] 33 (0, 0))) ∧ (w'.heap[bp]? = some (.cells #[.int .i64 r, .int .i64 c, .slice A cs.length cp, .int .i64 cur] 91 (0, 0))) ∧ (Own B0 w' 37 5 (.slice A cs.length cp) (rows Gs.cv cs)) ∧ (w'.heap[b1_8]? = some (.cells #[.pointer (some ⟨bp, 0, none⟩)] 33 (0, 0))) ∧ (w'.heap[D2]? = some (.deferred (some []))) ∧ (w'.heap[l2]? = some Rdy2) ∧ (Upd no w w'))) (X := (fun _ => False)) (fun _ w' hJ => by obtain ⟨v3, h_b2, own3, h_b1, h_bp, own_p, h_b1_8, h_D2, h_l2, hF⟩ := hJ; exact ⟨h_b1_8, h_bp, own_p⟩) (fun _ w' w'' hJ U' => by obtain ⟨v3, h_b2, own3, h_b1, h_bp, own_p, h_b1_8, h_D2, h_l2, hF⟩ := hJ; exact ⟨v3, U'.get0 h_b2, own3.upd0 U', U'.get0 h_b1, U'.get0 h_bp, own_p.upd0 U', U'.get0 h_b1_8, U'.get0 h_D2, U'.get0 h_l2, hF.go0 U'⟩) (fun _ _ h _ => h.elim) (fun _ => rfl) (fun _ => hcw) (fun _ _ => rfl) hN hb ?_ ?_) ?_
    · intro k wl2 xk hx hI
      obtain ⟨v3, h_b2, own3, h_b1, h_bp, own_p, h_b1_8, h_D2, h_l2, hF⟩ := hI
      have hk := (List.getElem?_eq_some_iff.1 hx).1
      have hsl := Gs.starts_len_le cs
      have hol := Gs.outF_len hb k
      have hxm1 := Gs.starts_mem.1 (List.mem_of_getElem? hx)
      have hpl := Gs.places_le cs.length (Gs.atM cs xk)
      refine hY [.agg (Gs.fv (Gs.atM cs xk)).toArray] _ _ rfl h_l2 ?_
      try simp only [List.getD_cons_zero, List.getD_cons_succ]
      refine alloc_intro (cs := (Gs.fv Gs.zf).toArray) (by kernel_rfl) (fun b5 w5 e5 h_b5 _ U5 => ?_)
      have ne_b2_b5 : b2 ≠ b5 := by have := lt_get h_b2; omega
      have na_own3_b5 := own3.apart e5
      have ne_b1_b5 : b1 ≠ b5 := by have := lt_get h_b1; omega
      have ne_bp_b5 : bp ≠ b5 := by have := lt_get h_bp; omega
      have na_own_p_b5 := own_p.apart e5
      have ne_b1_8_b5 : b1_8 ≠ b5 := by have := lt_get h_b1_8; omega
      have ne_D2_b5 : D2 ≠ b5 := by have := lt_get h_D2; omega
      have ne_l2_b5 : l2 ≠ b5 := by have := lt_get h_l2; omega
      have ge_b5 : w.heap.size ≤ b5 := by have := hF.size; omega
      replace own3 := own3.upd0 U5
      replace own_p := own_p.upd0 U5
      replace h_b2 := U5.get0 h_b2
      replace h_b1 := U5.get0 h_b1
      replace h_bp := U5.get0 h_bp
      replace h_b1_8 := U5.get0 h_b1_8
      replace h_D2 := U5.get0 h_D2
      replace h_l2 := U5.get0 h_l2
      replace hF := hF.go0 U5
      clear e5
      refine store_intro (n := 3) (cs' := (Gs.fv (Gs.atM cs xk)).toArray) (by kernel_rfl) (by rfl) (by first | rfl | (simp [Value.cells, Value.oneCell', Gs.cv, Gs.fv, Gs.ie]; done)) h_b5 (by first | exact Nat.le_of_ble_eq_true rfl | (simp; done) | omega) (by rfl) (fun w6 N6 _ U6 => ?_)
      replace own3 := own3.upd1 U6 na_own3_b5
      replace own_p := own_p.upd1 U6 na_own_p_b5
      replace h_b2 := U6.get1 h_b2 ne_b2_b5
      replace h_b1 := U6.get1 h_b1 ne_b1_b5
      replace h_bp := U6.get1 h_bp ne_bp_b5
      replace h_b1_8 := U6.get1 h_b1_8 ne_b1_8_b5
      replace h_D2 := U6.get1 h_D2 ne_D2_b5
      replace h_l2 := U6.get1 h_l2 ne_l2_b5
      replace h_b5 := N6
      replace hF := hF.go1 U6 ge_b5
      refine midR_i h_l2 (fun w7 N7 _ U7 => ?_)
      replace own3 := own3.upd1 U7 (by first | assumption | exact Own.ne_blk own3 (by assumption) (by decide) | exact Own.not_loop own3 (by assumption) (by assumption) | exact Own.not_def own3 (by assumption) | exact Own.not_loop own3 (by assumption) (lp3 _))
      replace own_p := own_p.upd1 U7 na_own_p_l2
      replace h_b2 := U7.get1 h_b2 ne_b2_l2
      replace h_b1 := U7.get1 h_b1 ne_b1_l2
      replace h_bp := U7.get1 h_bp ne_bp_l2
      replace h_b1_8 := U7.get1 h_b1_8 ne_b1_8_l2
      replace h_D2 := U7.get1 h_D2 ne_D2_l2
      replace h_b5 := U7.get1 h_b5 (Ne.symm ne_l2_b5)
      replace h_l2 := N7
      replace hF := hF.go1 U7 ge_l2
      refine opv_run (fieldAt_eq (off := 2) (by kernel_rfl)) ?_
      refine opv_run (ldC (by kernel_rfl) h_b5 (by rfl)) ?_
      refine callF_bool (c_attr_Modified (Gs.at_a hcw xk)) (fun w8 U8 h8 => ?_) (fun w8 U8 h8 => ?_)
      · replace own3 := own3.upd0 U8
        replace own_p := own_p.upd0 U8
        replace h_b2 := U8.get0 h_b2
        replace h_b1 := U8.get0 h_b1
        replace h_bp := U8.get0 h_bp
        replace h_b1_8 := U8.get0 h_b1_8
        replace h_D2 := U8.get0 h_D2
        replace h_l2 := U8.get0 h_l2
        replace h_b5 := U8.get0 h_b5
        replace hF := hF.go0 U8
        try simp only [decide_eq_true_eq, decide_eq_false_iff_not] at h8
        refine opv_run (notT) ?_
        refine condf ?_
        have gB_h_b2 := lt_get h_b2
        have gB_own3 := Own.lt own3
        have gB_h_b1 := lt_get h_b1
        have gB_h_bp := lt_get h_bp
        have gB_own_p := Own.lt own_p
        have gB_h_b1_8 := lt_get h_b1_8
        have gB_h_D2 := lt_get h_D2
        have gB_h_l2 := lt_get h_l2
        have gB_h_b5 := lt_get h_b5
        have oG_own3 := own3
        have gN_h_b2 : ¬ ownS (v3) b2 := (fun h => by first | exact Own.ne_blk own3 h_b2 (by decide) _ h rfl | exact Own.not_loop own3 h_b2 (by assumption) _ h rfl | exact Own.not_def own3 h_b2 _ h rfl | (have := Own.ge own3 h; omega))
        have gN_h_b1 : ¬ ownS (v3) b1 := (fun h => by first | exact Own.ne_blk own3 h_b1 (by decide) _ h rfl | exact Own.not_loop own3 h_b1 (by assumption) _ h rfl | exact Own.not_def own3 h_b1 _ h rfl | (have := Own.ge own3 h; omega))
        have gN_h_bp : ¬ ownS (v3) bp := (fun h => by first | exact Own.ne_blk own3 h_bp (by decide) _ h rfl | exact Own.not_loop own3 h_bp (by assumption) _ h rfl | exact Own.not_def own3 h_bp _ h rfl | (have := Own.ge own3 h; omega))
        have gN_h_b1_8 : ¬ ownS (v3) b1_8 := (fun h => by first | exact Own.ne_blk own3 h_b1_8 (by decide) _ h rfl | exact Own.not_loop own3 h_b1_8 (by assumption) _ h rfl | exact Own.not_def own3 h_b1_8 _ h rfl | (have := Own.ge own3 h; omega))
        have gN_h_D2 : ¬ ownS (v3) D2 := (fun h => by first | exact Own.ne_blk own3 h_D2 (by decide) _ h rfl | exact Own.not_loop own3 h_D2 (by assumption) _ h rfl | exact Own.not_def own3 h_D2 _ h rfl | (have := Own.ge own3 h; omega))
        have gN_h_l2 : ¬ ownS (v3) l2 := (fun h => by first | exact Own.ne_blk own3 h_l2 (by decide) _ h rfl | exact Own.not_loop own3 h_l2 (by assumption) _ h rfl | exact Own.not_def own3 h_l2 _ h rfl | (have := Own.ge own3 h; omega))
        have gN_h_b5 : ¬ ownS (v3) b5 := (fun h => na_own3_b5 _ h rfl)
        refine drawn_S (S := fun k => ownS (v3) k ∨ w8.heap.size ≤ k) (fun w9 U9 => ?_)
        replace own3 := own3.upd0 U9
        replace own_p := own_p.upd0 U9
        replace h_b2 := U9.get0 h_b2
        replace h_b1 := U9.get0 h_b1
        replace h_bp := U9.get0 h_bp
        replace h_b1_8 := U9.get0 h_b1_8
        replace h_D2 := U9.get0 h_D2
        replace h_l2 := U9.get0 h_l2
        replace h_b5 := U9.get0 h_b5
        replace hF := hF.go0 U9
        have zz9 := U9.size
        refine qop_run (fun w' hw' => by have h_b2 := hw'.get h_b2 (fun hs => Or.elim (show ownS _ _ ∨ _ ≤ _ from hs) gN_h_b2 (fun h => by have := gB_h_b2; omega)); exact (ldC (by kernel_rfl) h_b2 (by rfl))) ?_
        refine qop_run (fun w' hw' => by have h_b1 := hw'.get h_b1 (fun hs => Or.elim (show ownS _ _ ∨ _ ≤ _ from hs) gN_h_b1 (fun h => by have := gB_h_b1; omega)); exact (ldC (by kernel_rfl) h_b1 (by rfl))) ?_
        refine qop_run (fun w' hw' => by have h_b1 := hw'.get h_b1 (fun hs => Or.elim (show ownS _ _ ∨ _ ≤ _ from hs) gN_h_b1 (fun h => by have := gB_h_b1; omega)); exact (ldC (by kernel_rfl) h_b1 (by rfl))) ?_
        refine qop_run (fun w' hw' => (fieldAt_eq (off := 0) (by kernel_rfl))) ?_
        refine qop_run (fun w' hw' => by have h_b5 := hw'.get h_b5 (fun hs => Or.elim (show ownS _ _ ∨ _ ≤ _ from hs) gN_h_b5 (fun h => by have := gB_h_b5; omega)); exact (ldC (by kernel_rfl) h_b5 (by rfl))) ?_
        refine ext_intro (fun w10 U10 => ?_)
        replace own3 := own3.upd0 U10
        replace own_p := own_p.upd0 U10
        replace h_b2 := U10.get0 h_b2
        replace h_b1 := U10.get0 h_b1
        replace h_bp := U10.get0 h_bp
        replace h_b1_8 := U10.get0 h_b1_8
        replace h_D2 := U10.get0 h_D2
        replace h_l2 := U10.get0 h_l2
        replace h_b5 := U10.get0 h_b5
        replace hF := hF.go0 U10
        have zz10 := U10.size
        refine lop_i ?_
        refine buildSlice_intro (e := 5) (m := 1) (z := #[.int .u8 0]) (by kernel_rfl) (by kernel_rfl) (by rfl) (by decide) (by first | (simp [fillL, splice, repL, Value.cells, Gs.cv, Gs.fv, Gs.ie]; done) | (simp [fillL, splice, repL, Value.cells, Gs.cv, Gs.fv, Gs.ie]; rfl)) (fun b11 w11 e11 h_b11 _ U11 => ?_)
        have ne_b2_b11 : b2 ≠ b11 := by have := lt_get h_b2; omega
        have na_own3_b11 := own3.apart e11
        have ne_b1_b11 : b1 ≠ b11 := by have := lt_get h_b1; omega
        have ne_bp_b11 : bp ≠ b11 := by have := lt_get h_bp; omega
        have na_own_p_b11 := own_p.apart e11
        have ne_b1_8_b11 : b1_8 ≠ b11 := by have := lt_get h_b1_8; omega
        have ne_D2_b11 : D2 ≠ b11 := by have := lt_get h_D2; omega
        have ne_l2_b11 : l2 ≠ b11 := by have := lt_get h_l2; omega
        have ne_b5_b11 : b5 ≠ b11 := by have := lt_get h_b5; omega
        have ge_b11 : w.heap.size ≤ b11 := by have := hF.size; omega
        replace own3 := own3.upd0 U11
        replace own_p := own_p.upd0 U11
        replace h_b2 := U11.get0 h_b2
        replace h_b1 := U11.get0 h_b1
        replace h_bp := U11.get0 h_bp
        replace h_b1_8 := U11.get0 h_b1_8
        replace h_D2 := U11.get0 h_D2
        replace h_l2 := U11.get0 h_l2
        replace h_b5 := U11.get0 h_b5
        replace hF := hF.go0 U11
        have zz11 := U11.size
        clear e11
        refine ⟨U11.any, ?_⟩
        refine ext_intro (fun w12 U12 => ?_)
        replace own3 := own3.upd0 U12
        replace own_p := own_p.upd0 U12
        replace h_b2 := U12.get0 h_b2
        replace h_b1 := U12.get0 h_b1
        replace h_bp := U12.get0 h_bp
        replace h_b1_8 := U12.get0 h_b1_8
        replace h_D2 := U12.get0 h_D2
        replace h_l2 := U12.get0 h_l2
        replace h_b5 := U12.get0 h_b5
        replace h_b11 := U12.get0 h_b11
        replace hF := hF.go0 U12
        have zz12 := U12.size
        refine lop_i ?_
        refine app_introA (e := 5) (size := 1) (bytes := 1) (by kernel_rfl) own3 (Rd.of_blockL h_b11) rfl (by first | (simp [Value.oneCell']; done) | (intro u hu; simp only [List.mem_singleton] at hu; subst hu; rfl) | (simp; intros; subst_vars; rfl)) (by simp only [vals_length, List.length_take, List.length_cons, List.length_nil, List.length_append, List.length_map, List.length_range]; omega) (by have := hF.size; omega) (fun v13 w13 N13 hA13 U13 => ?_)
        have own3_o := own3
        have nc13_b5 : ∀ k, ownS v13 k → k ≠ b5 := fun k hk e => Or.elim (hA13 k hk) (fun h => na_own3_b5 k h e) (fun h => by have := lt_get h_b5; omega)
        have nc13_b11 : ∀ k, ownS v13 k → k ≠ b11 := fun k hk e => Or.elim (hA13 k hk) (fun h => na_own3_b11 k h e) (fun h => by have := lt_get h_b11; omega)
        replace h_b2 := U13.get h_b2 (fun h => by first | (have := Own.ge own3_o h; omega) | exact Own.ne_blk own3_o h_b2 (by decide) _ h rfl | exact Own.not_loop own3_o h_b2 (by assumption) _ h rfl | exact Own.not_def own3_o h_b2 _ h rfl | simp_all)
        replace own3 := N13
        replace h_b1 := U13.get h_b1 (fun h => by first | (have := Own.ge own3_o h; omega) | exact Own.ne_blk own3_o h_b1 (by decide) _ h rfl | exact Own.not_loop own3_o h_b1 (by assumption) _ h rfl | exact Own.not_def own3_o h_b1 _ h rfl | simp_all)
        replace h_bp := U13.get h_bp (fun h => by first | (have := Own.ge own3_o h; omega) | exact Own.ne_blk own3_o h_bp (by decide) _ h rfl | exact Own.not_loop own3_o h_bp (by assumption) _ h rfl | exact Own.not_def own3_o h_bp _ h rfl | simp_all)
        replace own_p := own_p.updS U13 (fun k hk hs => by have := lt_own_p k hk; have := (Own.ge own3_o hs).1; omega)
        replace h_b1_8 := U13.get h_b1_8 (fun h => by first | (have := Own.ge own3_o h; omega) | exact Own.ne_blk own3_o h_b1_8 (by decide) _ h rfl | exact Own.not_loop own3_o h_b1_8 (by assumption) _ h rfl | exact Own.not_def own3_o h_b1_8 _ h rfl | simp_all)
        replace h_D2 := U13.get h_D2 (fun h => by first | (have := Own.ge own3_o h; omega) | exact Own.ne_blk own3_o h_D2 (by decide) _ h rfl | exact Own.not_loop own3_o h_D2 (by assumption) _ h rfl | exact Own.not_def own3_o h_D2 _ h rfl | simp_all)
        replace h_l2 := U13.get h_l2 (fun h => by first | (have := Own.ge own3_o h; omega) | exact Own.ne_blk own3_o h_l2 (by decide) _ h rfl | exact Own.not_loop own3_o h_l2 (by assumption) _ h rfl | exact Own.not_def own3_o h_l2 _ h rfl | simp_all)
        replace h_b5 := U13.get h_b5 (fun h => na_own3_b5 _ h rfl)
        replace h_b11 := U13.get h_b11 (fun h => na_own3_b11 _ h rfl)
        replace hF := hF.go U13 (fun i h hs => by first | exact hs | exact .inl hs | exact .inr hs | (have := (Own.ge own3_o hs).1; omega))
        have zz13 := U13.size
        clear own3_o
        refine ⟨U13.mono (Nat.le_refl _) (fun i _ h => .inl h), ?_⟩
        refine qop_call (fun w' hw' => by have h_bp := hw'.get h_bp (fun hs => Or.elim (show ownS _ _ ∨ _ ≤ _ from hs) gN_h_bp (fun h => by have := gB_h_bp; omega)); have own_p := own_p.updS hw' (fun k hk hs => Or.elim (show ownS _ _ ∨ _ ≤ _ from hs) (fun h => by have := lt_own_p k hk; have := (Own.ge oG_own3 h).1; omega) (fun h => by have := gB_own_p k hk; omega)); exact c_Plane_Size h_bp own_p rfl) ?_
        refine qop_call (fun w' hw' => c_addr_Move (i := (xk : Int)) (j := 1)) ?_
        rw [hN, Gs.moveN_at (by omega)]
        refine ext_intro (fun w16 U16 => ?_)
        replace own3 := own3.upd0 U16
        replace own_p := own_p.upd0 U16
        replace h_b2 := U16.get0 h_b2
        replace h_b1 := U16.get0 h_b1
        replace h_bp := U16.get0 h_bp
        replace h_b1_8 := U16.get0 h_b1_8
        replace h_D2 := U16.get0 h_D2
        replace h_l2 := U16.get0 h_l2
        replace h_b5 := U16.get0 h_b5
        replace h_b11 := U16.get0 h_b11
        replace hF := hF.go0 U16
        have zz16 := U16.size
        refine lop_i ?_
        refine callF_ex (c_rp_place h_bp own_p rfl (i := ((xk : Int) + 1) % (cs.length : Int))) (fun v17 w17 D17 => ?_)
        obtain ⟨A23, c23, rfl, rd23, gA23, U17⟩ := D17
        have na_rd23_b2 := gA23.ne (lt_get h_b2)
        have na_rd23_own3 : _ ∨ ∀ k, _ → ¬ ownS _ k := gA23.imp_right fun h k hk hs => by have := h k hk; have := (Own.ge own3 hs).2; omega
        have na_rd23_b1 := gA23.ne (lt_get h_b1)
        have na_rd23_bp := gA23.ne (lt_get h_bp)
        have na_rd23_own_p : _ ∨ ∀ k, _ → ¬ ownS _ k := gA23.imp_right fun h k hk hs => by have := h k hk; have := (Own.ge own_p hs).2; omega
        have na_rd23_b1_8 := gA23.ne (lt_get h_b1_8)
        have na_rd23_D2 := gA23.ne (lt_get h_D2)
        have na_rd23_l2 := gA23.ne (lt_get h_l2)
        have na_rd23_b5 := gA23.ne (lt_get h_b5)
        have na_rd23_b11 := gA23.ne (lt_get h_b11)
        replace own3 := own3.upd0 U17
        replace own_p := own_p.upd0 U17
        replace h_b2 := U17.get0 h_b2
        replace h_b1 := U17.get0 h_b1
        replace h_bp := U17.get0 h_bp
        replace h_b1_8 := U17.get0 h_b1_8
        replace h_D2 := U17.get0 h_D2
        replace h_l2 := U17.get0 h_l2
        replace h_b5 := U17.get0 h_b5
        replace h_b11 := U17.get0 h_b11
        replace hF := hF.go0 U17
        have zz17 := U17.size
        refine ⟨U17.any, ?_⟩
        refine ext_intro (fun w18 U18 => ?_)
        replace own3 := own3.upd0 U18
        replace own_p := own_p.upd0 U18
        replace rd23 := rd23.upd0 U18
        replace h_b2 := U18.get0 h_b2
        replace h_b1 := U18.get0 h_b1
        replace h_bp := U18.get0 h_bp
        replace h_b1_8 := U18.get0 h_b1_8
        replace h_D2 := U18.get0 h_D2
        replace h_l2 := U18.get0 h_l2
        replace h_b5 := U18.get0 h_b5
        replace h_b11 := U18.get0 h_b11
        replace hF := hF.go0 U18
        have zz18 := U18.size
        refine lop_i ?_
        refine app_introA (e := 5) (size := 1) (bytes := 1) (by kernel_rfl) own3 rd23 (by first | (simp [vals_length]; done) | (simp [vals_length]; omega)) vals_one (by simp only [vals_length, List.length_take, List.length_cons, List.length_nil, List.length_append, List.length_map, List.length_range]; omega) (by have := hF.size; omega) (fun v19 w19 N19 hA19 U19 => ?_)
        have own3_o := own3
        have nb19_rd23 := ap_rd (S' := w18) na_rd23_own3 rd23 hA19
        have nc19_b5 : ∀ k, ownS v19 k → k ≠ b5 := fun k hk e => Or.elim (hA19 k hk) (fun h => nc13_b5 k h e) (fun h => by have := lt_get h_b5; omega)
        have nc19_b11 : ∀ k, ownS v19 k → k ≠ b11 := fun k hk e => Or.elim (hA19 k hk) (fun h => nc13_b11 k h e) (fun h => by have := lt_get h_b11; omega)
        replace h_b2 := U19.get h_b2 (fun h => by first | (have := Own.ge own3_o h; omega) | exact Own.ne_blk own3_o h_b2 (by decide) _ h rfl | exact Own.not_loop own3_o h_b2 (by assumption) _ h rfl | exact Own.not_def own3_o h_b2 _ h rfl | simp_all)
        replace own3 := N19
        replace h_b1 := U19.get h_b1 (fun h => by first | (have := Own.ge own3_o h; omega) | exact Own.ne_blk own3_o h_b1 (by decide) _ h rfl | exact Own.not_loop own3_o h_b1 (by assumption) _ h rfl | exact Own.not_def own3_o h_b1 _ h rfl | simp_all)
        replace h_bp := U19.get h_bp (fun h => by first | (have := Own.ge own3_o h; omega) | exact Own.ne_blk own3_o h_bp (by decide) _ h rfl | exact Own.not_loop own3_o h_bp (by assumption) _ h rfl | exact Own.not_def own3_o h_bp _ h rfl | simp_all)
        replace own_p := own_p.updS U19 (fun k hk hs => by have := lt_own_p k hk; have := (Own.ge own3_o hs).1; omega)
        replace h_b1_8 := U19.get h_b1_8 (fun h => by first | (have := Own.ge own3_o h; omega) | exact Own.ne_blk own3_o h_b1_8 (by decide) _ h rfl | exact Own.not_loop own3_o h_b1_8 (by assumption) _ h rfl | exact Own.not_def own3_o h_b1_8 _ h rfl | simp_all)
        replace h_D2 := U19.get h_D2 (fun h => by first | (have := Own.ge own3_o h; omega) | exact Own.ne_blk own3_o h_D2 (by decide) _ h rfl | exact Own.not_loop own3_o h_D2 (by assumption) _ h rfl | exact Own.not_def own3_o h_D2 _ h rfl | simp_all)
        replace h_l2 := U19.get h_l2 (fun h => by first | (have := Own.ge own3_o h; omega) | exact Own.ne_blk own3_o h_l2 (by decide) _ h rfl | exact Own.not_loop own3_o h_l2 (by assumption) _ h rfl | exact Own.not_def own3_o h_l2 _ h rfl | simp_all)
        replace h_b5 := U19.get h_b5 (fun h => nc13_b5 _ h rfl)
        replace h_b11 := U19.get h_b11 (fun h => nc13_b11 _ h rfl)
        replace rd23 := rd23.updS U19 na_rd23_own3
        replace hF := hF.go U19 (fun i h hs => by first | exact hs | exact .inl hs | exact .inr hs | (have := (Own.ge own3_o hs).1; omega))
        have zz19 := U19.size
        clear own3_o
        refine ⟨U19.mono (Nat.le_refl _) (fun i _ h => Or.elim (hA13 i h) .inl (fun h2 => .inr (by omega))), ?_⟩
        refine ext_intro (fun w20 U20 => ?_)
        replace own3 := own3.upd0 U20
        replace own_p := own_p.upd0 U20
        replace rd23 := rd23.upd0 U20
        replace h_b2 := U20.get0 h_b2
        replace h_b1 := U20.get0 h_b1
        replace h_bp := U20.get0 h_bp
        replace h_b1_8 := U20.get0 h_b1_8
        replace h_D2 := U20.get0 h_D2
        replace h_l2 := U20.get0 h_l2
        replace h_b5 := U20.get0 h_b5
        replace h_b11 := U20.get0 h_b11
        replace hF := hF.go0 U20
        have zz20 := U20.size
        refine store1_intro (by kernel_rfl) (Own.vone own3).1 (Own.vone own3).2 h_b2 (by first | exact Nat.le_of_ble_eq_true rfl | (simp; done) | omega | (simp [vals_length, *]; done) | (simp [vals_length, *]; omega)) (by first | (simp [vals_set]; rfl) | rfl) (fun w21 N21 _ U21 => ?_)
        replace own3 := own3.upd1 U21 (by first | assumption | exact Own.ne_blk own3 (by assumption) (by decide) | exact Own.not_loop own3 (by assumption) (by assumption) | exact Own.not_def own3 (by assumption) | exact Own.not_loop own3 (by assumption) (lp3 _))
        replace own_p := own_p.upd1 U21 na_own_p_b2
        replace rd23 := rd23.upd1 U21 na_rd23_b2
        replace h_b1 := U21.get1 h_b1 ne_b1_b2
        replace h_bp := U21.get1 h_bp ne_bp_b2
        replace h_b1_8 := U21.get1 h_b1_8 (Ne.symm ne_b2_b1_8)
        replace h_D2 := U21.get1 h_D2 (Ne.symm ne_b2_D2)
        replace h_l2 := U21.get1 h_l2 (Ne.symm ne_b2_l2)
        replace h_b5 := U21.get1 h_b5 (Ne.symm ne_b2_b5)
        replace h_b11 := U21.get1 h_b11 (Ne.symm ne_b2_b11)
        replace h_b2 := N21
        replace hF := hF.go1 U21 ge_b2
        have zz21 := U21.size
        refine ext_intro (fun w22 U22 => ?_)
        replace own3 := own3.upd0 U22
        replace own_p := own_p.upd0 U22
        replace rd23 := rd23.upd0 U22
        replace h_b2 := U22.get0 h_b2
        replace h_b1 := U22.get0 h_b1
        replace h_bp := U22.get0 h_bp
        replace h_b1_8 := U22.get0 h_b1_8
        replace h_D2 := U22.get0 h_D2
        replace h_l2 := U22.get0 h_l2
        replace h_b5 := U22.get0 h_b5
        replace h_b11 := U22.get0 h_b11
        replace hF := hF.go0 U22
        have zz22 := U22.size
        refine opv_run (ldC (by kernel_rfl) h_b1 (by rfl)) ?_
        refine opv_run (ldA (n := 3) (cs' := (Gs.fv (Gs.atM cs xk)).toArray) (by kernel_rfl) h_b5 (by first | exact Nat.le_of_ble_eq_true rfl | (simp; done) | omega) (by rfl)) ?_
        refine callF_ex (c_field_Places h_bp own_p rfl (f := (Gs.atM cs xk))) (fun v23 w23 D23 => ?_)
        obtain ⟨b1_27, b2_27, rfl, g1_27, g2_27, h_b1_27, h_b2_27, U23⟩ := D23
        have ne_b2_b1_27 : b2 ≠ b1_27 := by have := lt_get h_b2; omega
        have na_own3_b1_27 : ∀ k, ownS _ k → k ≠ b1_27 := fun k hk => by have := (Own.ge own3 hk).2; omega
        have ne_b1_b1_27 : b1 ≠ b1_27 := by have := lt_get h_b1; omega
        have ne_bp_b1_27 : bp ≠ b1_27 := by have := lt_get h_bp; omega
        have na_own_p_b1_27 : ∀ k, ownS _ k → k ≠ b1_27 := fun k hk => by have := (Own.ge own_p hk).2; omega
        have ne_b1_8_b1_27 : b1_8 ≠ b1_27 := by have := lt_get h_b1_8; omega
        have ne_D2_b1_27 : D2 ≠ b1_27 := by have := lt_get h_D2; omega
        have ne_l2_b1_27 : l2 ≠ b1_27 := by have := lt_get h_l2; omega
        have ne_b5_b1_27 : b5 ≠ b1_27 := by have := lt_get h_b5; omega
        have ne_b11_b1_27 : b11 ≠ b1_27 := by have := lt_get h_b11; omega
        have na_rd23_b1_27 := (rd23.lt).ne (b := b1_27) (by omega)
        have ge_b1_27 : w.heap.size ≤ b1_27 := by have := hF.size; omega
        have ne_b2_b2_27 : b2 ≠ b2_27 := by have := lt_get h_b2; omega
        have na_own3_b2_27 : ∀ k, ownS _ k → k ≠ b2_27 := fun k hk => by have := (Own.ge own3 hk).2; omega
        have ne_b1_b2_27 : b1 ≠ b2_27 := by have := lt_get h_b1; omega
        have ne_bp_b2_27 : bp ≠ b2_27 := by have := lt_get h_bp; omega
        have na_own_p_b2_27 : ∀ k, ownS _ k → k ≠ b2_27 := fun k hk => by have := (Own.ge own_p hk).2; omega
        have ne_b1_8_b2_27 : b1_8 ≠ b2_27 := by have := lt_get h_b1_8; omega
        have ne_D2_b2_27 : D2 ≠ b2_27 := by have := lt_get h_D2; omega
        have ne_l2_b2_27 : l2 ≠ b2_27 := by have := lt_get h_l2; omega
        have ne_b5_b2_27 : b5 ≠ b2_27 := by have := lt_get h_b5; omega
        have ne_b11_b2_27 : b11 ≠ b2_27 := by have := lt_get h_b11; omega
        have na_rd23_b2_27 := (rd23.lt).ne (b := b2_27) (by omega)
        have ge_b2_27 : w.heap.size ≤ b2_27 := by have := hF.size; omega
        replace own3 := own3.upd0 U23
        replace own_p := own_p.upd0 U23
        replace rd23 := rd23.upd0 U23
        replace h_b2 := U23.get0 h_b2
        replace h_b1 := U23.get0 h_b1
        replace h_bp := U23.get0 h_bp
        replace h_b1_8 := U23.get0 h_b1_8
        replace h_D2 := U23.get0 h_D2
        replace h_l2 := U23.get0 h_l2
        replace h_b5 := U23.get0 h_b5
        replace h_b11 := U23.get0 h_b11
        replace hF := hF.go0 U23
        have zz23 := U23.size
        refine rangeN_i (by kernel_rfl) h_l2 lp2_2 (fun w24 l3 Rdy3 Bsy3 Dn3 y3 el h_l3 lp1_3 lp2_3 lp3_3 sz24 U24 hY => ?_)
        have ne_b2_l3 : b2 ≠ l3 := by have := lt_get h_b2; omega
        have na_own3_l3 : ∀ k, ownS _ k → k ≠ l3 := fun k hk => by have := (Own.ge own3 hk).2; omega
        have ne_b1_l3 : b1 ≠ l3 := by have := lt_get h_b1; omega
        have ne_bp_l3 : bp ≠ l3 := by have := lt_get h_bp; omega
        have na_own_p_l3 : ∀ k, ownS _ k → k ≠ l3 := fun k hk => by have := (Own.ge own_p hk).2; omega
        have ne_b1_8_l3 : b1_8 ≠ l3 := by have := lt_get h_b1_8; omega
        have ne_D2_l3 : D2 ≠ l3 := by have := lt_get h_D2; omega
        have ne_l2_l3 : l2 ≠ l3 := by have := lt_get h_l2; omega
        have ne_b5_l3 : b5 ≠ l3 := by have := lt_get h_b5; omega
        have ne_b11_l3 : b11 ≠ l3 := by have := lt_get h_b11; omega
        have na_rd23_l3 := (rd23.lt).ne (b := l3) (by omega)
        have ne_b1_27_l3 : b1_27 ≠ l3 := by have := lt_get h_b1_27; omega
        have ne_b2_27_l3 : b2_27 ≠ l3 := by have := lt_get h_b2_27; omega
        have ge_l3 : w.heap.size ≤ l3 := by have := hF.size; omega
        replace own3 := own3.upd0 U24
        replace own_p := own_p.upd0 U24
        replace rd23 := rd23.upd0 U24
        replace h_b2 := U24.get0 h_b2
        replace h_b1 := U24.get0 h_b1
        replace h_bp := U24.get0 h_bp
        replace h_b1_8 := U24.get0 h_b1_8
        replace h_D2 := U24.get0 h_D2
        replace h_l2 := U24.get0 h_l2
        replace h_b5 := U24.get0 h_b5
        replace h_b11 := U24.get0 h_b11
        replace h_b1_27 := U24.get0 h_b1_27
        replace h_b2_27 := U24.get0 h_b2_27
        replace hF := hF.go0 U24
        have zz24 := U24.size
        refine Calls.mono (c_field_Places_1 (b1 := b1_27) (b2 := b2_27) (f := (Gs.atM cs xk)) (J := (fun (m : Nat) (w' : World) => ∃ (v3 : Value), (w'.heap[b2]? = some (.cells #[v3] 24 (0, 0))) ∧ (Own w.heap.size w' 5 1 v3 (vals .u8 (Gs.outF cs k ++ Gs.headF cs (Gs.atM cs xk) ++ Gs.fullM cs ((Gs.placesL cs.length (Gs.atM cs xk)).take m)))) ∧ (w'.heap[b1]? = some (.cells #[.pointer (some ⟨bp, 0, none⟩)] 33 (0, 0))) ∧ (w'.heap[bp]? = some (.cells #[.int .i64 r, .int .i64 c, .slice A cs.length cp, .int .i64 cur] 91 (0, 0))) ∧ (Own B0 w' 37 5 (.slice A cs.length cp) (rows Gs.cv cs)) ∧ (w'.heap[b1_8]? = some (.cells #[.pointer (some ⟨bp, 0, none⟩)] 33 (0, 0))) ∧ (w'.heap[b1_27]? = some (.cells #[.pointer (some ⟨bp, 0, none⟩)] 33 (0, 0))) ∧ (w'.heap[b2_27]? = some (.cells (Gs.fv (Gs.atM cs xk)).toArray 173 (0, 0))) ∧ (w'.heap[l3]? = some Rdy3) ∧ (w'.heap[l2]? = some Bsy2) ∧ (w'.heap[D2]? = some (.deferred (some []))) ∧ (Upd no w w'))) (X := (fun _ => False)) (fun _ w' hJ => by obtain ⟨v3, h_b2, own3, h_b1, h_bp, own_p, h_b1_8, h_b1_27, h_b2_27, h_l3, h_l2, h_D2, hF⟩ := hJ; exact ⟨h_b1_27, h_b2_27, h_bp, own_p⟩) (fun _ w' w'' hJ U' => by obtain ⟨v3, h_b2, own3, h_b1, h_bp, own_p, h_b1_8, h_b1_27, h_b2_27, h_l3, h_l2, h_D2, hF⟩ := hJ; exact ⟨v3, U'.get0 h_b2, own3.upd0 U', U'.get0 h_b1, U'.get0 h_bp, own_p.upd0 U', U'.get0 h_b1_8, U'.get0 h_b1_27, U'.get0 h_b2_27, U'.get0 h_l3, U'.get0 h_l2, U'.get0 h_D2, hF.go0 U'⟩) (fun _ _ h _ => h.elim) (fun _ h => h.elim) rfl hN hb ?_ ?_) ?_
        · intro m wl3 xm hxm hI
          obtain ⟨v3, h_b2, own3, h_b1, h_bp, own_p, h_b1_8, h_b1_27, h_b2_27, h_l3, h_l2, h_D2, hF⟩ := hI
          have hkm := (List.getElem?_eq_some_iff.1 hxm).1
          have hfl := Gs.full_len cs ((Gs.placesL cs.length (Gs.atM cs xk)).take m)
          rw [List.length_take] at hfl
          have hhl : (Gs.headF cs (Gs.atM cs xk)).length = 3 := by rw [Gs.headF_P]; rfl
          refine hY [.int .i64 xm] _ _ rfl h_l3 ?_
          try simp only [List.getD_cons_zero, List.getD_cons_succ]
          refine midR_i h_l3 (fun w25 N25 _ U25 => ?_)
          replace own3 := own3.upd1 U25 (by first | assumption | exact Own.ne_blk own3 (by assumption) (by decide) | exact Own.not_loop own3 (by assumption) (by assumption) | exact Own.not_def own3 (by assumption) | exact Own.not_loop own3 (by assumption) (lp3 _))
          replace own_p := own_p.upd1 U25 na_own_p_l3
          replace h_b2 := U25.get1 h_b2 ne_b2_l3
          replace h_b1 := U25.get1 h_b1 ne_b1_l3
          replace h_bp := U25.get1 h_bp ne_bp_l3
          replace h_b1_8 := U25.get1 h_b1_8 ne_b1_8_l3
          replace h_b1_27 := U25.get1 h_b1_27 ne_b1_27_l3
          replace h_b2_27 := U25.get1 h_b2_27 ne_b2_27_l3
          replace h_l2 := U25.get1 h_l2 ne_l2_l3
          replace h_D2 := U25.get1 h_D2 ne_D2_l3
          replace h_l3 := N25
          replace hF := hF.go1 U25 ge_l3
          have zz25 := U25.size
          refine opv_run (ldC (by kernel_rfl) h_b1 (by rfl)) ?_
          refine callF_val (c_Plane_At h_bp own_p rfl (i := xm)) (fun w26 U26 => ?_)
          replace own3 := own3.upd0 U26
          replace own_p := own_p.upd0 U26
          replace h_b2 := U26.get0 h_b2
          replace h_b1 := U26.get0 h_b1
          replace h_bp := U26.get0 h_bp
          replace h_b1_8 := U26.get0 h_b1_8
          replace h_b1_27 := U26.get0 h_b1_27
          replace h_b2_27 := U26.get0 h_b2_27
          replace h_l3 := U26.get0 h_l3
          replace h_l2 := U26.get0 h_l2
          replace h_D2 := U26.get0 h_D2
          replace hF := hF.go0 U26
          have zz26 := U26.size
          refine alloc_intro (cs := (Gs.cv Gs.zc).toArray) (by kernel_rfl) (fun b27 w27 e27 h_b27 _ U27 => ?_)
          have ne_b2_b27 : b2 ≠ b27 := by have := lt_get h_b2; omega
          have na_own3_b27 := own3.apart e27
          have ne_b1_b27 : b1 ≠ b27 := by have := lt_get h_b1; omega
          have ne_bp_b27 : bp ≠ b27 := by have := lt_get h_bp; omega
          have na_own_p_b27 := own_p.apart e27
          have ne_b1_8_b27 : b1_8 ≠ b27 := by have := lt_get h_b1_8; omega
          have ne_b1_27_b27 : b1_27 ≠ b27 := by have := lt_get h_b1_27; omega
          have ne_b2_27_b27 : b2_27 ≠ b27 := by have := lt_get h_b2_27; omega
          have ne_l3_b27 : l3 ≠ b27 := by have := lt_get h_l3; omega
          have ne_l2_b27 : l2 ≠ b27 := by have := lt_get h_l2; omega
          have ne_D2_b27 : D2 ≠ b27 := by have := lt_get h_D2; omega
          have ge_b27 : w.heap.size ≤ b27 := by have := hF.size; omega
          replace own3 := own3.upd0 U27
          replace own_p := own_p.upd0 U27
          replace h_b2 := U27.get0 h_b2
          replace h_b1 := U27.get0 h_b1
          replace h_bp := U27.get0 h_bp
          replace h_b1_8 := U27.get0 h_b1_8
          replace h_b1_27 := U27.get0 h_b1_27
          replace h_b2_27 := U27.get0 h_b2_27
          replace h_l3 := U27.get0 h_l3
          replace h_l2 := U27.get0 h_l2
          replace h_D2 := U27.get0 h_D2
          replace hF := hF.go0 U27
          have zz27 := U27.size
          clear e27
          refine store_intro (n := 5) (cs' := (Gs.cv (Gs.getC cs xm)).toArray) (by kernel_rfl) (by rfl) (by first | rfl | (simp [Value.cells, Value.oneCell', Gs.cv, Gs.fv, Gs.ie]; done)) h_b27 (by first | exact Nat.le_of_ble_eq_true rfl | (simp; done) | omega) (by rfl) (fun w28 N28 _ U28 => ?_)
          replace own3 := own3.upd1 U28 na_own3_b27
          replace own_p := own_p.upd1 U28 na_own_p_b27
          replace h_b2 := U28.get1 h_b2 ne_b2_b27
          replace h_b1 := U28.get1 h_b1 ne_b1_b27
          replace h_bp := U28.get1 h_bp ne_bp_b27
          replace h_b1_8 := U28.get1 h_b1_8 ne_b1_8_b27
          replace h_b1_27 := U28.get1 h_b1_27 ne_b1_27_b27
          replace h_b2_27 := U28.get1 h_b2_27 ne_b2_27_b27
          replace h_l3 := U28.get1 h_l3 ne_l3_b27
          replace h_l2 := U28.get1 h_l2 ne_l2_b27
          replace h_D2 := U28.get1 h_D2 ne_D2_b27
          replace h_b27 := N28
          replace hF := hF.go1 U28 ge_b27
          have zz28 := U28.size
          refine opv_run (ldA (n := 5) (cs' := (Gs.cv (Gs.getC cs xm)).toArray) (by kernel_rfl) h_b27 (by first | exact Nat.le_of_ble_eq_true rfl | (simp; done) | omega) (by rfl)) ?_
          refine callF_bool (c_rp_empty) (fun w29 U29 h29 => ?_) (fun w29 U29 h29 => ?_)
          · replace own3 := own3.upd0 U29
            replace own_p := own_p.upd0 U29
            replace h_b2 := U29.get0 h_b2
            replace h_b1 := U29.get0 h_b1
            replace h_bp := U29.get0 h_bp
            replace h_b1_8 := U29.get0 h_b1_8
            replace h_b1_27 := U29.get0 h_b1_27
            replace h_b2_27 := U29.get0 h_b2_27
            replace h_l3 := U29.get0 h_l3
            replace h_l2 := U29.get0 h_l2
            replace h_D2 := U29.get0 h_D2
            replace h_b27 := U29.get0 h_b27
            replace hF := hF.go0 U29
            have zz29 := U29.size
            try simp only [decide_eq_true_eq, decide_eq_false_iff_not] at h29
            refine opv_run (notT) ?_
            refine condf ?_
            refine finN h_l3 (fun w30 N30 _ U30 => ?_)
            replace own3 := own3.upd1 U30 (by first | assumption | exact Own.ne_blk own3 (by assumption) (by decide) | exact Own.not_loop own3 (by assumption) (by assumption) | exact Own.not_def own3 (by assumption) | exact Own.not_loop own3 (by assumption) (lp3 _))
            replace own_p := own_p.upd1 U30 na_own_p_l3
            replace h_b2 := U30.get1 h_b2 ne_b2_l3
            replace h_b1 := U30.get1 h_b1 ne_b1_l3
            replace h_bp := U30.get1 h_bp ne_bp_l3
            replace h_b1_8 := U30.get1 h_b1_8 ne_b1_8_l3
            replace h_b1_27 := U30.get1 h_b1_27 ne_b1_27_l3
            replace h_b2_27 := U30.get1 h_b2_27 ne_b2_27_l3
            replace h_l2 := U30.get1 h_l2 ne_l2_l3
            replace h_D2 := U30.get1 h_D2 ne_D2_l3
            replace h_b27 := U30.get1 h_b27 (Ne.symm ne_l3_b27)
            replace h_l3 := N30
            replace hF := hF.go1 U30 ge_l3
            have zz30 := U30.size
            exact ⟨_, h_b2, (by first | (rw [← Gs.full_F hxm (by assumption), ← List.append_assoc, ← vals_append]; exact own3) | (rw [← Gs.full_T hxm (by assumption)]; exact own3)), h_b1, h_bp, own_p, h_b1_8, h_b1_27, h_b2_27, h_l3, h_l2, h_D2, hF⟩
          · replace own3 := own3.upd0 U29
            replace own_p := own_p.upd0 U29
            replace h_b2 := U29.get0 h_b2
            replace h_b1 := U29.get0 h_b1
            replace h_bp := U29.get0 h_bp
            replace h_b1_8 := U29.get0 h_b1_8
            replace h_b1_27 := U29.get0 h_b1_27
            replace h_b2_27 := U29.get0 h_b2_27
            replace h_l3 := U29.get0 h_l3
            replace h_l2 := U29.get0 h_l2
            replace h_D2 := U29.get0 h_D2
            replace h_b27 := U29.get0 h_b27
            replace hF := hF.go0 U29
            have zz29 := U29.size
            try simp only [decide_eq_true_eq, decide_eq_false_iff_not] at h29
            refine opv_run (notF) ?_
            refine condt ?_
            refine drawn_S (S := ownS (v3)) (fun w31 U31 => ?_)
            replace own3 := own3.upd0 U31
            replace own_p := own_p.upd0 U31
            replace h_b2 := U31.get0 h_b2
            replace h_b1 := U31.get0 h_b1
            replace h_bp := U31.get0 h_bp
            replace h_b1_8 := U31.get0 h_b1_8
            replace h_b1_27 := U31.get0 h_b1_27
            replace h_b2_27 := U31.get0 h_b2_27
            replace h_l3 := U31.get0 h_l3
            replace h_l2 := U31.get0 h_l2
            replace h_D2 := U31.get0 h_D2
            replace h_b27 := U31.get0 h_b27
            replace hF := hF.go0 U31
            refine qop_run (fun w' hw' => by have h_b2 := hw'.get h_b2 (fun h => by first | exact Own.ne_blk own3 h_b2 (by decide) _ h rfl | (have := Own.ge own3 h; omega)); exact (ldC (by kernel_rfl) h_b2 (by rfl))) ?_
            refine qop_run (fun w' hw' => by have h_b27 := hw'.get h_b27 (fun h => by first | exact Own.ne_blk own3 h_b27 (by decide) _ h rfl | (have := Own.ge own3 h; omega)); exact (ldA (n := 5) (cs' := (Gs.cv (Gs.getC cs xm)).toArray) (by kernel_rfl) h_b27 (by first | exact Nat.le_of_ble_eq_true rfl | (simp; done) | omega) (by rfl))) ?_
            refine ext_intro (fun w32 U32 => ?_)
            replace own3 := own3.upd0 U32
            replace own_p := own_p.upd0 U32
            replace h_b2 := U32.get0 h_b2
            replace h_b1 := U32.get0 h_b1
            replace h_bp := U32.get0 h_bp
            replace h_b1_8 := U32.get0 h_b1_8
            replace h_b1_27 := U32.get0 h_b1_27
            replace h_b2_27 := U32.get0 h_b2_27
            replace h_l3 := U32.get0 h_l3
            replace h_l2 := U32.get0 h_l2
            replace h_D2 := U32.get0 h_D2
            replace h_b27 := U32.get0 h_b27
            replace hF := hF.go0 U32
            refine lop_i ?_
            refine callF_ex (c_rp_bytes) (fun v33 w33 D33 => ?_)
            obtain ⟨own37, U33⟩ := D33
            obtain ⟨A37, c37, rfl, _⟩ := own37.rd1
            have nx33_h_b2_own37 : ¬ ownS _ b2 := fun h => by have := (Own.ge own37 h).1; have := lt_get h_b2; omega
            have nx33_own3_own37 : ∀ k, ownS _ k → ¬ ownS _ k := fun k hk hs => by have := (Own.ge own3 hk).2; have := (Own.ge own37 hs).1; omega
            have nx33_h_b1_own37 : ¬ ownS _ b1 := fun h => by have := (Own.ge own37 h).1; have := lt_get h_b1; omega
            have nx33_h_bp_own37 : ¬ ownS _ bp := fun h => by have := (Own.ge own37 h).1; have := lt_get h_bp; omega
            have nx33_own_p_own37 : ∀ k, ownS _ k → ¬ ownS _ k := fun k hk hs => by have := (Own.ge own_p hk).2; have := (Own.ge own37 hs).1; omega
            have nx33_h_b1_8_own37 : ¬ ownS _ b1_8 := fun h => by have := (Own.ge own37 h).1; have := lt_get h_b1_8; omega
            have nx33_h_b1_27_own37 : ¬ ownS _ b1_27 := fun h => by have := (Own.ge own37 h).1; have := lt_get h_b1_27; omega
            have nx33_h_b2_27_own37 : ¬ ownS _ b2_27 := fun h => by have := (Own.ge own37 h).1; have := lt_get h_b2_27; omega
            have nx33_h_l3_own37 : ¬ ownS _ l3 := fun h => by have := (Own.ge own37 h).1; have := lt_get h_l3; omega
            have nx33_h_l2_own37 : ¬ ownS _ l2 := fun h => by have := (Own.ge own37 h).1; have := lt_get h_l2; omega
            have nx33_h_D2_own37 : ¬ ownS _ D2 := fun h => by have := (Own.ge own37 h).1; have := lt_get h_D2; omega
            have nx33_h_b27_own37 : ¬ ownS _ b27 := fun h => by have := (Own.ge own37 h).1; have := lt_get h_b27; omega
            replace own37 := own37.mono (B' := w.heap.size) hF.size
            replace own3 := own3.upd0 U33
            replace own_p := own_p.upd0 U33
            replace h_b2 := U33.get0 h_b2
            replace h_b1 := U33.get0 h_b1
            replace h_bp := U33.get0 h_bp
            replace h_b1_8 := U33.get0 h_b1_8
            replace h_b1_27 := U33.get0 h_b1_27
            replace h_b2_27 := U33.get0 h_b2_27
            replace h_l3 := U33.get0 h_l3
            replace h_l2 := U33.get0 h_l2
            replace h_D2 := U33.get0 h_D2
            replace h_b27 := U33.get0 h_b27
            replace hF := hF.go0 U33
            have hbl := Gs.bytes_len (Gs.getC cs xm)
            refine ⟨U33.any, ?_⟩
            refine ext_intro (fun w34 U34 => ?_)
            replace own3 := own3.upd0 U34
            replace own_p := own_p.upd0 U34
            replace own37 := own37.upd0 U34
            replace h_b2 := U34.get0 h_b2
            replace h_b1 := U34.get0 h_b1
            replace h_bp := U34.get0 h_bp
            replace h_b1_8 := U34.get0 h_b1_8
            replace h_b1_27 := U34.get0 h_b1_27
            replace h_b2_27 := U34.get0 h_b2_27
            replace h_l3 := U34.get0 h_l3
            replace h_l2 := U34.get0 h_l2
            replace h_D2 := U34.get0 h_D2
            replace h_b27 := U34.get0 h_b27
            replace hF := hF.go0 U34
            refine lop_i ?_
            refine app_introA (e := 5) (size := 1) (bytes := 1) (by kernel_rfl) own3 own37.rdS (by first | (simp [vals_length]; done) | (simp [vals_length]; omega)) vals_one (by simp only [vals_length, List.length_take, List.length_cons, List.length_nil, List.length_append, List.length_map, List.length_range]; omega) (by have := hF.size; omega) (fun v35 w35 N35 hA35 U35 => ?_)
            have own3_o := own3
            have nb35_own37 := ap_own (S' := w34) (fun k hk hs => nx33_own3_own37 k hs hk) own37 hA35
            have nc35_b27 : ∀ k, ownS v35 k → k ≠ b27 := fun k hk e => Or.elim (hA35 k hk) (fun h => na_own3_b27 k h e) (fun h => by have := lt_get h_b27; omega)
            replace h_b2 := U35.get h_b2 (fun h => by first | (have := Own.ge own3_o h; omega) | exact Own.ne_blk own3_o h_b2 (by decide) _ h rfl | exact Own.not_loop own3_o h_b2 (by assumption) _ h rfl | exact Own.not_def own3_o h_b2 _ h rfl | simp_all)
            replace own3 := N35
            replace h_b1 := U35.get h_b1 (fun h => by first | (have := Own.ge own3_o h; omega) | exact Own.ne_blk own3_o h_b1 (by decide) _ h rfl | exact Own.not_loop own3_o h_b1 (by assumption) _ h rfl | exact Own.not_def own3_o h_b1 _ h rfl | simp_all)
            replace h_bp := U35.get h_bp (fun h => by first | (have := Own.ge own3_o h; omega) | exact Own.ne_blk own3_o h_bp (by decide) _ h rfl | exact Own.not_loop own3_o h_bp (by assumption) _ h rfl | exact Own.not_def own3_o h_bp _ h rfl | simp_all)
            replace own_p := own_p.updS U35 (fun k hk hs => by have := lt_own_p k hk; have := (Own.ge own3_o hs).1; omega)
            replace h_b1_8 := U35.get h_b1_8 (fun h => by first | (have := Own.ge own3_o h; omega) | exact Own.ne_blk own3_o h_b1_8 (by decide) _ h rfl | exact Own.not_loop own3_o h_b1_8 (by assumption) _ h rfl | exact Own.not_def own3_o h_b1_8 _ h rfl | simp_all)
            replace h_b1_27 := U35.get h_b1_27 (fun h => by first | (have := Own.ge own3_o h; omega) | exact Own.ne_blk own3_o h_b1_27 (by decide) _ h rfl | exact Own.not_loop own3_o h_b1_27 (by assumption) _ h rfl | exact Own.not_def own3_o h_b1_27 _ h rfl | simp_all)
            replace h_b2_27 := U35.get h_b2_27 (fun h => by first | (have := Own.ge own3_o h; omega) | exact Own.ne_blk own3_o h_b2_27 (by decide) _ h rfl | exact Own.not_loop own3_o h_b2_27 (by assumption) _ h rfl | exact Own.not_def own3_o h_b2_27 _ h rfl | simp_all)
            replace h_l3 := U35.get h_l3 (fun h => by first | (have := Own.ge own3_o h; omega) | exact Own.ne_blk own3_o h_l3 (by decide) _ h rfl | exact Own.not_loop own3_o h_l3 (by assumption) _ h rfl | exact Own.not_def own3_o h_l3 _ h rfl | simp_all)
            replace h_l2 := U35.get h_l2 (fun h => by first | (have := Own.ge own3_o h; omega) | exact Own.ne_blk own3_o h_l2 (by decide) _ h rfl | exact Own.not_loop own3_o h_l2 (by assumption) _ h rfl | exact Own.not_def own3_o h_l2 _ h rfl | simp_all)
            replace h_D2 := U35.get h_D2 (fun h => by first | (have := Own.ge own3_o h; omega) | exact Own.ne_blk own3_o h_D2 (by decide) _ h rfl | exact Own.not_loop own3_o h_D2 (by assumption) _ h rfl | exact Own.not_def own3_o h_D2 _ h rfl | simp_all)
            replace h_b27 := U35.get h_b27 (fun h => na_own3_b27 _ h rfl)
            replace own37 := own37.updS U35 (fun k hk hs => nx33_own3_own37 k hs hk)
            replace hF := hF.go U35 (fun i h hs => by first | exact hs | exact .inl hs | exact .inr hs | (have := (Own.ge own3_o hs).1; omega))
            clear own3_o
            refine ⟨U35, ?_⟩
            refine ext_intro (fun w36 U36 => ?_)
            replace own3 := own3.upd0 U36
            replace own_p := own_p.upd0 U36
            replace own37 := own37.upd0 U36
            replace h_b2 := U36.get0 h_b2
            replace h_b1 := U36.get0 h_b1
            replace h_bp := U36.get0 h_bp
            replace h_b1_8 := U36.get0 h_b1_8
            replace h_b1_27 := U36.get0 h_b1_27
            replace h_b2_27 := U36.get0 h_b2_27
            replace h_l3 := U36.get0 h_l3
            replace h_l2 := U36.get0 h_l2
            replace h_D2 := U36.get0 h_D2
            replace h_b27 := U36.get0 h_b27
            replace hF := hF.go0 U36
            refine store1_intro (by kernel_rfl) (Own.vone own3).1 (Own.vone own3).2 h_b2 (by first | exact Nat.le_of_ble_eq_true rfl | (simp; done) | omega | (simp [vals_length, *]; done) | (simp [vals_length, *]; omega)) (by first | (simp [vals_set]; rfl) | rfl) (fun w37 N37 _ U37 => ?_)
            replace own3 := own3.upd1 U37 (by first | assumption | exact Own.ne_blk own3 (by assumption) (by decide) | exact Own.not_loop own3 (by assumption) (by assumption) | exact Own.not_def own3 (by assumption) | exact Own.not_loop own3 (by assumption) (lp3 _))
            replace own_p := own_p.upd1 U37 na_own_p_b2
            replace own37 := own37.upd1 U37 (by first | assumption | exact Own.ne_blk own37 (by assumption) (by decide) | exact Own.not_loop own37 (by assumption) (by assumption) | exact Own.not_def own37 (by assumption) | exact Own.not_loop own37 (by assumption) (lp3 _))
            replace h_b1 := U37.get1 h_b1 ne_b1_b2
            replace h_bp := U37.get1 h_bp ne_bp_b2
            replace h_b1_8 := U37.get1 h_b1_8 (Ne.symm ne_b2_b1_8)
            replace h_b1_27 := U37.get1 h_b1_27 (Ne.symm ne_b2_b1_27)
            replace h_b2_27 := U37.get1 h_b2_27 (Ne.symm ne_b2_b2_27)
            replace h_l3 := U37.get1 h_l3 (Ne.symm ne_b2_l3)
            replace h_l2 := U37.get1 h_l2 (Ne.symm ne_b2_l2)
            replace h_D2 := U37.get1 h_D2 (Ne.symm ne_b2_D2)
            replace h_b27 := U37.get1 h_b27 (Ne.symm ne_b2_b27)
            replace h_b2 := N37
            replace hF := hF.go1 U37 ge_b2
            refine ext_intro (fun w38 U38 => ?_)
            replace own3 := own3.upd0 U38
            replace own_p := own_p.upd0 U38
            replace own37 := own37.upd0 U38
            replace h_b2 := U38.get0 h_b2
            replace h_b1 := U38.get0 h_b1
            replace h_bp := U38.get0 h_bp
            replace h_b1_8 := U38.get0 h_b1_8
            replace h_b1_27 := U38.get0 h_b1_27
            replace h_b2_27 := U38.get0 h_b2_27
            replace h_l3 := U38.get0 h_l3
            replace h_l2 := U38.get0 h_l2
            replace h_D2 := U38.get0 h_D2
            replace h_b27 := U38.get0 h_b27
            replace hF := hF.go0 U38
            refine finN h_l3 (fun w39 N39 _ U39 => ?_)
            replace own3 := own3.upd1 U39 (by first | assumption | exact Own.ne_blk own3 (by assumption) (by decide) | exact Own.not_loop own3 (by assumption) (by assumption) | exact Own.not_def own3 (by assumption) | exact Own.not_loop own3 (by assumption) (lp3 _))
            replace own_p := own_p.upd1 U39 na_own_p_l3
            replace own37 := own37.upd1 U39 (by first | assumption | exact Own.ne_blk own37 (by assumption) (by decide) | exact Own.not_loop own37 (by assumption) (by assumption) | exact Own.not_def own37 (by assumption) | exact Own.not_loop own37 (by assumption) (lp3 _))
            replace h_b2 := U39.get1 h_b2 ne_b2_l3
            replace h_b1 := U39.get1 h_b1 ne_b1_l3
            replace h_bp := U39.get1 h_bp ne_bp_l3
            replace h_b1_8 := U39.get1 h_b1_8 ne_b1_8_l3
            replace h_b1_27 := U39.get1 h_b1_27 ne_b1_27_l3
            replace h_b2_27 := U39.get1 h_b2_27 ne_b2_27_l3
            replace h_l2 := U39.get1 h_l2 ne_l2_l3
            replace h_D2 := U39.get1 h_D2 ne_D2_l3
            replace h_b27 := U39.get1 h_b27 (Ne.symm ne_l3_b27)
            replace h_l3 := N39
            replace hF := hF.go1 U39 ge_l3
            exact ⟨_, h_b2, (by first | (rw [← Gs.full_F hxm (by assumption), ← List.append_assoc, ← vals_append]; exact own3) | (rw [← Gs.full_T hxm (by assumption)]; exact own3)), h_b1, h_bp, own_p, h_b1_8, h_b1_27, h_b2_27, h_l3, h_l2, h_D2, hF⟩
        · exact ⟨_, h_b2, (by rw [Gs.headF_P, List.take_zero, show Gs.fullM cs [] = [] from rfl, List.append_nil, ← List.append_assoc, ← vals_append, ← vals_append]; exact own3), h_b1, h_bp, own_p, h_b1_8, h_b1_27, h_b2_27, h_l3, h_l2, h_D2, hF⟩
        rintro e wE3 ⟨hv, hI | hI⟩
        · obtain ⟨v3, h_b2, own3, h_b1, h_bp, own_p, h_b1_8, h_b1_27, h_b2_27, h_l3, h_l2, h_D2, hF⟩ := hI
          refine ⟨hv, .inl ⟨h_l3, fun w40 _ U40 => ?_⟩⟩
          replace own3 := own3.upd1 U40 (by first | assumption | exact Own.ne_blk own3 (by assumption) (by decide) | exact Own.not_loop own3 (by assumption) (by assumption) | exact Own.not_def own3 (by assumption) | exact Own.not_loop own3 (by assumption) (lp3 _))
          replace own_p := own_p.upd1 U40 na_own_p_l3
          replace h_b2 := U40.get1 h_b2 ne_b2_l3
          replace h_b1 := U40.get1 h_b1 ne_b1_l3
          replace h_bp := U40.get1 h_bp ne_bp_l3
          replace h_b1_8 := U40.get1 h_b1_8 ne_b1_8_l3
          replace h_b1_27 := U40.get1 h_b1_27 ne_b1_27_l3
          replace h_b2_27 := U40.get1 h_b2_27 ne_b2_27_l3
          replace h_l2 := U40.get1 h_l2 ne_l2_l3
          replace h_D2 := U40.get1 h_D2 ne_D2_l3
          replace hF := hF.go1 U40 ge_l3
          refine finN h_l2 (fun w41 N41 _ U41 => ?_)
          replace own3 := own3.upd1 U41 (by first | assumption | exact Own.ne_blk own3 (by assumption) (by decide) | exact Own.not_loop own3 (by assumption) (by assumption) | exact Own.not_def own3 (by assumption) | exact Own.not_loop own3 (by assumption) (lp3 _))
          replace own_p := own_p.upd1 U41 na_own_p_l2
          replace h_b2 := U41.get1 h_b2 ne_b2_l2
          replace h_b1 := U41.get1 h_b1 ne_b1_l2
          replace h_bp := U41.get1 h_bp ne_bp_l2
          replace h_b1_8 := U41.get1 h_b1_8 ne_b1_8_l2
          replace h_b1_27 := U41.get1 h_b1_27 (Ne.symm ne_l2_b1_27)
          replace h_b2_27 := U41.get1 h_b2_27 (Ne.symm ne_l2_b2_27)
          replace h_D2 := U41.get1 h_D2 ne_D2_l2
          replace h_l2 := N41
          replace hF := hF.go1 U41 ge_l2
          exact ⟨_, h_b2, (by first | (rw [← Gs.outF_F hx (by assumption)]; exact own3) | (rw [← Gs.outF_T hx (by assumption), ← List.append_assoc]; rw [List.take_of_length_le (Nat.le_refl _)] at own3; exact own3)), h_b1, h_bp, own_p, h_b1_8, h_D2, h_l2, hF⟩
        · exact hI.elim
      · replace own3 := own3.upd0 U8
        replace own_p := own_p.upd0 U8
        replace h_b2 := U8.get0 h_b2
        replace h_b1 := U8.get0 h_b1
        replace h_bp := U8.get0 h_bp
        replace h_b1_8 := U8.get0 h_b1_8
        replace h_D2 := U8.get0 h_D2
        replace h_l2 := U8.get0 h_l2
        replace h_b5 := U8.get0 h_b5
        replace hF := hF.go0 U8
        try simp only [decide_eq_true_eq, decide_eq_false_iff_not] at h8
        refine opv_run (notF) ?_
        refine condt ?_
        refine finN h_l2 (fun w42 N42 _ U42 => ?_)
        replace own3 := own3.upd1 U42 (by first | assumption | exact Own.ne_blk own3 (by assumption) (by decide) | exact Own.not_loop own3 (by assumption) (by assumption) | exact Own.not_def own3 (by assumption) | exact Own.not_loop own3 (by assumption) (lp3 _))
        replace own_p := own_p.upd1 U42 na_own_p_l2
        replace h_b2 := U42.get1 h_b2 ne_b2_l2
        replace h_b1 := U42.get1 h_b1 ne_b1_l2
        replace h_bp := U42.get1 h_bp ne_bp_l2
        replace h_b1_8 := U42.get1 h_b1_8 ne_b1_8_l2
        replace h_D2 := U42.get1 h_D2 ne_D2_l2
        replace h_b5 := U42.get1 h_b5 (Ne.symm ne_l2_b5)
        replace h_l2 := N42
        replace hF := hF.go1 U42 ge_l2
        have zz42 := U42.size
        exact ⟨_, h_b2, (by first | (rw [← Gs.outF_F hx (by assumption)]; exact own3) | (rw [← Gs.outF_T hx (by assumption), ← List.append_assoc]; rw [List.take_of_length_le (Nat.le_refl _)] at own3; exact own3)), h_b1, h_bp, own_p, h_b1_8, h_D2, h_l2, hF⟩
    · exact ⟨_, h_b2, (Own.nil _ _ _ _), h_b1, h_bp, own_p, h_b1_8, h_D2, h_l2, hF⟩
    rintro e wE2 ⟨hv, hI | hI⟩
    · obtain ⟨v3, h_b2, own3, h_b1, h_bp, own_p, h_b1_8, h_D2, h_l2, hF⟩ := hI
      refine ⟨hv, .inl ⟨h_l2, fun w43 _ U43 => ?_⟩⟩
      replace own3 := own3.upd1 U43 (by first | assumption | exact Own.ne_blk own3 (by assumption) (by decide) | exact Own.not_loop own3 (by assumption) (by assumption) | exact Own.not_def own3 (by assumption) | exact Own.not_loop own3 (by assumption) (lp3 _))
      replace own_p := own_p.upd1 U43 na_own_p_l2
      replace h_b2 := U43.get1 h_b2 ne_b2_l2
      replace h_b1 := U43.get1 h_b1 ne_b1_l2
      replace h_bp := U43.get1 h_bp ne_bp_l2
      replace h_b1_8 := U43.get1 h_b1_8 ne_b1_8_l2
      replace h_D2 := U43.get1 h_D2 ne_D2_l2
      replace hF := hF.go1 U43 ge_l2
      have zz43 := U43.size
      refine hJ1 _ _ ?_
      exact ⟨_, _, (by first | exact g1000000 | rfl), ge_D2, h_D2, h_b2, own3, hF⟩
    · exact hI.elim
  · obtain ⟨D2, v3, g1000000, ge_D2, h_D2, h_b2, own3, hF⟩ := hI
    try rw [g1000000]
    refine opv_run (ldC (by kernel_rfl) h_b2 (by rfl)) ?_
    refine leave1 h_D2 (fun w45 _ U45 => ?_)
    replace own3 := own3.upd1 U45 (by first | assumption | exact Own.ne_blk own3 (by assumption) (by decide) | exact Own.not_loop own3 (by assumption) (by assumption) | exact Own.not_def own3 (by assumption) | exact Own.not_loop own3 (by assumption) (lp3 _))
    replace h_b2 := U45.get1 h_b2 (by first | omega | exact blk_ne (by assumption) (by assumption) (by decide) | exact blk_not_loop (by assumption) (by assumption) (by assumption) | exact Ne.symm (blk_not_loop (by assumption) (by assumption) (by assumption)) | exact blk_not_def (by assumption) (by assumption) | exact Ne.symm (blk_not_def (by assumption) (by assumption)) | exact def_ne_blk (by assumption) (by assumption) | exact Ne.symm (def_ne_blk (by assumption) (by assumption)))
    replace hF := hF.go1 U45 ge_D2
    have zz45 := U45.size
    exact ⟨_, rfl, own3, hF⟩
end Go.Proofs.YtjdoakbadehicaaGreatDoor
