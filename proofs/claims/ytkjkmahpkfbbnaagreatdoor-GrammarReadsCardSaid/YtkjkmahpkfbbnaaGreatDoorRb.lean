/-
  Contracts of functions of the program, walked over their shallow forms. No condition but the ones that each states.
-/
import Derived.Test.YtkjkmahpkfbbnaaGreatDoorPF
import Derived.Test.YtkjkmahpkfbbnaaGreatDoorFieldAll
namespace Go.Proofs.YtkjkmahpkfbbnaaGreatDoor
open Go Go.Sh
set_option linter.unusedVariables false
set_option maxRecDepth 100000


/-- greenscreen/greenscreenref15.Starts -/
theorem c_ref15_Starts {r c cur : Int} {A : Option Addr} {n cp : Nat} {cs : List Gs.Cell} {w : World} (rd1 : Rd w A (rows Gs.cv cs)) (hn : n = cs.length) (hb : n ≤ 4096) :
    Calls Tryz.prog 57 #[.agg #[.int .i64 r, .int .i64 c, .slice A n cp, .int .i64 cur]] w fun e w' => ∃ v, e = .returned v ∧ ∃ A' c', v = .slice A' (Gs.startsL cs).length c' ∧ Rd w' A' (vals .i64 (Gs.startsL cs)) ∧ GeA A' (vals .i64 (Gs.startsL cs)) w.heap.size ∧ Upd no w w' := by
  refine F57.calls ?_
  unfold F57
  subst hn
  have lt_rd1 := rd1.lt
  have hF : Upd no w w := Fr.refl _ _ _
  refine box_intro (by rfl) (fun b1 w1 e1 h_b1 _ U1 => ?_)
  have na_rd1_b1 := rd1.apart e1
  have ge_b1 : w.heap.size ≤ b1 := by have := hF.size; omega
  replace rd1 := rd1.upd0 U1
  replace hF := hF.go0 U1
  clear e1
  refine buildSlice_intro (e := 3) (m := 1) (z := #[.int .i64 0]) (by kernel_rfl) (by kernel_rfl) (by rfl) (by decide) (by first | (simp [fillL, splice, repL, Value.cells, Gs.cv, Gs.fv]; done) | (simp [fillL, splice, repL, Value.cells, Gs.cv, Gs.fv]; rfl)) (fun b2 w2 e2 h_b2 _ U2 => ?_)
  have na_rd1_b2 := rd1.apart e2
  have ne_b1_b2 : b1 ≠ b2 := by have := lt_get h_b1; omega
  have ge_b2 : w.heap.size ≤ b2 := by have := hF.size; omega
  replace rd1 := rd1.upd0 U2
  replace h_b1 := U2.get0 h_b1
  replace hF := hF.go0 U2
  clear e2
  refine join_cut (fun g w' => ∃ (v3 : Value), (g 3 = v3) ∧ (Own w.heap.size w' 3 1 v3 (vals .i64 (Gs.startsL cs))) ∧ (Upd no w w')) (fun J1 hJ1 => ?_) (fun gJ1 wJ1 hI => ?_)
  · refine loop_intro (fun g w' => ∃ (k : Nat) (v3 : Value), (g 4 = .int .i64 (k : Int)) ∧ (k ≤ cs.length) ∧ (g 3 = v3) ∧ (Own w.heap.size w' 3 1 v3 (vals .i64 ((Gs.startsL cs).take (Gs.cntS cs k)))) ∧ (w'.heap[b1]? = some (.cells #[.int .i64 r, .int .i64 c, .slice A cs.length cp, .int .i64 cur] 27 (0, 0))) ∧ (Rd w' A (rows Gs.cv cs)) ∧ (Upd no w w')) (fun g w' => cs.length - (RowKit.intOf (g 4)).toNat) ?_ (fun g2 wl2 hI => ?_)
    · exact ⟨0, _, (by first | exact g4 | rfl), Nat.zero_le _, (by first | exact g3 | rfl), (Own.of_block (n := 0) h_b2 ge_b2 rfl (by decide)), h_b1, rd1, hF⟩
    · obtain ⟨k, v3, g4, hk, g3, own3, h_b1, rd1, hF⟩ := hI
      try rw [g4]
      try rw [g3]
      have hsl := Gs.starts_len_le cs
      have hstl := Gs.startsL_len cs
      refine opv_run (fieldAt_eq (off := 2) (by kernel_rfl)) ?_
      refine opv_run (ldC (by kernel_rfl) h_b1 (by rfl)) ?_
      refine opv_run (len_sl (by kernel_rfl) _ _ _) ?_
      refine opv_dec (lss _ _ _ _) (fun h3 => ?_) (fun h3 => ?_)
      · refine condt ?_
        refine join_cut (fun g w' => ∃ (v3 : Value), (g 3 = v3) ∧ (Own w.heap.size w' 3 1 v3 (vals .i64 ((Gs.startsL cs).take (Gs.cntS cs (k + 1))))) ∧ (w'.heap[b1]? = some (.cells #[.int .i64 r, .int .i64 c, .slice A cs.length cp, .int .i64 cur] 27 (0, 0))) ∧ (Rd w' A (rows Gs.cv cs)) ∧ (Upd no w w')) (fun J3 hJ3 => ?_) (fun gJ3 wJ3 hI => ?_)
        · refine opv_run (fieldAt_eq (off := 2) (by kernel_rfl)) ?_
          refine opv_run (ldC (by kernel_rfl) h_b1 (by rfl)) ?_
          refine idx_rowF (off := 2) Gs.encC (fun x => .bool x.st) (fun _ => rfl) (by decide) (by kernel_rfl) (by kernel_rfl) (by kernel_rfl) rd1 (by first | rfl | assumption | omega) (by omega) (by omega) (fun x4 hx4 => ?_)
          try simp only [Int.toNat_natCast] at hx4
          refine cond_intro (fun h5 => ?_) (fun h5 => ?_)
          · try simp only [decide_eq_true_eq, decide_eq_false_iff_not] at h5
            refine buildSlice_intro (e := 3) (m := 1) (z := #[.int .i64 0]) (by kernel_rfl) (by kernel_rfl) (by rfl) (by decide) (by first | (simp [fillL, splice, repL, Value.cells, Gs.cv, Gs.fv]; done) | (simp [fillL, splice, repL, Value.cells, Gs.cv, Gs.fv]; rfl)) (fun b6 w6 e6 h_b6 _ U6 => ?_)
            have na_own3_b6 := own3.apart e6
            have ne_b1_b6 : b1 ≠ b6 := by have := lt_get h_b1; omega
            have na_rd1_b6 := rd1.apart e6
            have ge_b6 : w.heap.size ≤ b6 := by have := hF.size; omega
            replace own3 := own3.upd0 U6
            replace rd1 := rd1.upd0 U6
            replace h_b1 := U6.get0 h_b1
            replace hF := hF.go0 U6
            clear e6
            refine app_intro (e := 3) (size := 1) (bytes := 8) (by kernel_rfl) own3 (Rd.of_blockL h_b6) rfl (by first | (simp [Value.oneCell']; done) | (intro u hu; simp only [List.mem_singleton] at hu; subst hu; rfl) | (simp; intros; subst_vars; rfl)) (by simp only [vals_length, List.length_take, List.length_cons, List.length_nil, List.length_append, List.length_map, List.length_range]; omega) (by have := hF.size; omega) (fun v7 w7 N7 U7 => ?_)
            have own3_o := own3
            replace own3 := N7
            replace h_b1 := U7.get h_b1 (fun h => by first | (have := Own.ge own3_o h; omega) | exact Own.ne_blk own3_o h_b1 (by decide) _ h rfl | exact Own.not_loop own3_o h_b1 (by assumption) _ h rfl | exact Own.not_def own3_o h_b1 _ h rfl | simp_all)
            replace rd1 := rd1.updS U7 (lt_rd1.imp_right fun h k hk hs => by have := h k hk; have := (Own.ge own3_o hs).1; omega)
            replace h_b6 := U7.get h_b6 (fun h => na_own3_b6 _ h rfl)
            replace hF := hF.go U7 (fun i h hs => by first | exact hs | exact .inl hs | exact .inr hs | (have := (Own.ge own3_o hs).1; omega))
            clear own3_o
            refine hJ3 _ _ ?_
            exact ⟨_, (by first | exact g3 | rfl), (by first | (rw [← Gs.starts_step_T hx4 (by assumption)]; exact own_snoc own3) | (rw [Gs.starts_step_F hx4 (by first | assumption | simp_all)]; exact own3)), h_b1, rd1, hF⟩
          · try simp only [decide_eq_true_eq, decide_eq_false_iff_not] at h5
            refine hJ3 _ _ ?_
            exact ⟨_, (by first | exact g3 | rfl), (by first | (rw [← Gs.starts_step_T hx4 (by assumption)]; exact own_snoc own3) | (rw [Gs.starts_step_F hx4 (by first | assumption | simp_all)]; exact own3)), h_b1, rd1, hF⟩
        · obtain ⟨v3, g3, own3, h_b1, rd1, hF⟩ := hI
          try rw [g3]
          first | refine opv_run (add_i64 _ (by omega)) ?_ | refine opv_run (addI _ _ _ _) ?_
          exact ⟨⟨k + 1, _, (by first | exact g4 | rfl), by omega, (by first | exact g3 | rfl), own3, h_b1, rd1, hF⟩, cnt_lt (by first | rfl | exact g4) rfl (by omega)⟩
      · refine condf ?_
        refine hJ1 _ _ ?_
        exact ⟨_, (by first | exact g3 | rfl), (by rw [show k = cs.length by omega, Gs.starts_done] at own3; exact own3), hF⟩
  · obtain ⟨v3, g3, own3, hF⟩ := hI
    try rw [g3]
    (obtain ⟨A3, c3, rfl, rd3⟩ := own3.rd1; exact ⟨_, rfl, A3, c3, rfl, rd3, .inr fun k hk => (own3.geb k hk).1, hF⟩)

/-- greenscreen/greenscreenref15.All -/
theorem c_ref15_All {r c cur : Int} {A : Option Addr} {n cp : Nat} {cs : List Gs.Cell} {w : World} (rd1 : Rd w A (rows Gs.cv cs)) (hn : n = cs.length) (hb : n ≤ 4096) (hcw : Gs.Cws cs) :
    Calls Tryz.prog 28 #[.agg #[.int .i64 r, .int .i64 c, .slice A n cp, .int .i64 cur]] w fun e w' => ∃ v, e = .returned v ∧ ∃ A' c', v = .slice A' (Gs.allM cs).length c' ∧ Rd w' A' (rows Gs.fv (Gs.allM cs)) ∧ GeA A' (rows Gs.fv (Gs.allM cs)) w.heap.size ∧ Upd no w w' := by
  refine F28.calls ?_
  unfold F28
  subst hn
  have lt_rd1 := rd1.lt
  have hF : Upd no w w := Fr.refl _ _ _
  refine box_intro (by rfl) (fun b1 w1 e1 h_b1 _ U1 => ?_)
  have na_rd1_b1 := rd1.apart e1
  have ge_b1 : w.heap.size ≤ b1 := by have := hF.size; omega
  replace rd1 := rd1.upd0 U1
  replace hF := hF.go0 U1
  clear e1
  refine buildSlice_intro (e := 68) (m := 3) (z := #[.int .i64 0, .int .i64 0, .int .u8 0]) (by kernel_rfl) (by kernel_rfl) (by rfl) (by decide) (by first | (simp [fillL, splice, repL, Value.cells, Gs.cv, Gs.fv]; done) | (simp [fillL, splice, repL, Value.cells, Gs.cv, Gs.fv]; rfl)) (fun b2 w2 e2 h_b2 _ U2 => ?_)
  have na_rd1_b2 := rd1.apart e2
  have ne_b1_b2 : b1 ≠ b2 := by have := lt_get h_b1; omega
  have ge_b2 : w.heap.size ≤ b2 := by have := hF.size; omega
  replace rd1 := rd1.upd0 U2
  replace h_b1 := U2.get0 h_b1
  replace hF := hF.go0 U2
  clear e2
  have own_b2 := Own.of_block (n := 0) (xs := rows Gs.fv []) (size := 3) h_b2 ge_b2 rfl (by decide)
  refine opv_run (ldA (n := 4) (by kernel_rfl) h_b1 (by first | exact Nat.le_of_ble_eq_true rfl | (simp; done) | omega) (by rfl)) ?_
  refine callF_ex (c_ref15_Starts rd1 rfl hb) (fun v3 w3 D3 => ?_)
  obtain ⟨A9, c9, rfl, rd9, gA9, U3⟩ := D3
  have na_rd9_b1 := gA9.ne (lt_get h_b1)
  have na_rd9_own_b2 : _ ∨ ∀ k, _ → ¬ ownS _ k := gA9.imp_right fun h k hk hs => by have := h k hk; have := (Own.ge own_b2 hs).2; omega
  replace rd1 := rd1.upd0 U3
  replace own_b2 := own_b2.upd0 U3
  replace h_b1 := U3.get0 h_b1
  replace hF := hF.go0 U3
  refine join_cut (fun g w' => ∃ (v3 : Value), (g 3 = v3) ∧ (Own w.heap.size w' 68 3 v3 (rows Gs.fv (Gs.allM cs))) ∧ (Upd no w w')) (fun J1 hJ1 => ?_) (fun gJ1 wJ1 hI => ?_)
  · refine loop_intro (fun g w' => ∃ (k : Nat) (v3 : Value), (g 5 = .int .i64 (k : Int)) ∧ (k ≤ (Gs.startsL cs).length) ∧ (g 3 = v3) ∧ (Own w.heap.size w' 68 3 v3 (rows Gs.fv ((Gs.allM cs).take k))) ∧ (w'.heap[b1]? = some (.cells #[.int .i64 r, .int .i64 c, .slice A cs.length cp, .int .i64 cur] 27 (0, 0))) ∧ (Rd w' A (rows Gs.cv cs)) ∧ (Rd w' A9 (vals .i64 (Gs.startsL cs))) ∧ (vals .i64 (Gs.startsL cs) = [] ∨ ∀ k, blkOf A9 k → ¬ ownS v3 k) ∧ (Upd no w w')) (fun g w' => (Gs.startsL cs).length - (RowKit.intOf (g 5)).toNat) ?_ (fun g2 wl2 hI => ?_)
    · exact ⟨0, _, (by first | exact g5 | rfl), Nat.zero_le _, (by first | exact g3 | rfl), (by rw [List.take_zero]; exact own_b2), h_b1, rd1, rd9, (by assumption), hF⟩
    · obtain ⟨k, v3, g5, hk, g3, own3, h_b1, rd1, rd9, hs9, hF⟩ := hI
      try rw [g5]
      try rw [g3]
      have hsl := Gs.starts_len_le cs
      have hstl := Gs.startsL_len cs
      have hal := Gs.allM_len cs
      refine opv_run (len_sl (by kernel_rfl) _ _ _) ?_
      refine opv_dec (lss _ _ _ _) (fun h4 => ?_) (fun h4 => ?_)
      · refine condt ?_
        refine drawn_S (S := no) (fun w5 U5 => ?_)
        replace own3 := own3.upd0 U5
        replace rd1 := rd1.upd0 U5
        replace rd9 := rd9.upd0 U5
        replace h_b1 := U5.get0 h_b1
        replace hF := hF.go0 U5
        refine qidx1 (by kernel_rfl) (by kernel_rfl) (fun w' hw' => rd9.upd0 hw') (Fr.refl _ _ _) (by first | rfl | assumption | omega | (simp; done) | (simp [vals_length, *]; done) | (simp [vals_length] at *; omega)) (by omega) (by omega) (fun x6 hx6 => ?_)
        try simp only [Int.toNat_natCast] at hx6
        have hbd18 := Gs.startsL_bd hx6
        refine qop_run (fun w' hw' => (fieldAt_eq (off := 2) (by kernel_rfl))) ?_
        refine qop_run (fun w' hw' => by have h_b1 := hw'.get0 h_b1; exact (ldC (by kernel_rfl) h_b1 (by rfl))) ?_
        refine qop_run (fun w' hw' => (len_sl (by kernel_rfl) _ _ _)) ?_
        first | refine qop_run (fun w' hw' => (add_i64 _ (by omega))) ?_ | refine qop_run (fun w' hw' => (addI _ _ _ _)) ?_
        refine ext_intro (fun w7 U7 => ?_)
        replace own3 := own3.upd0 U7
        replace rd1 := rd1.upd0 U7
        replace rd9 := rd9.upd0 U7
        replace h_b1 := U7.get0 h_b1
        replace hF := hF.go0 U7
        refine join_cut (fun g w' => (g 6 = .int .i64 (Gs.nextL cs k)) ∧ (Own w.heap.size w' 68 3 v3 (rows Gs.fv ((Gs.allM cs).take k))) ∧ (w'.heap[b1]? = some (.cells #[.int .i64 r, .int .i64 c, .slice A cs.length cp, .int .i64 cur] 27 (0, 0))) ∧ (Rd w' A (rows Gs.cv cs)) ∧ (Rd w' A9 (vals .i64 (Gs.startsL cs))) ∧ (vals .i64 (Gs.startsL cs) = [] ∨ ∀ k, blkOf A9 k → ¬ ownS v3 k) ∧ (Upd no w w')) (fun J3 hJ3 => ?_) (fun gJ3 wJ3 hI => ?_)
        · first | refine opv_run (add_i64 _ (by omega)) ?_ | refine opv_run (addI _ _ _ _) ?_
          refine opv_run (len_sl (by kernel_rfl) _ _ _) ?_
          refine opv_dec (lss _ _ _ _) (fun h8 => ?_) (fun h8 => ?_)
          · refine condt ?_
            first | refine opv_run (add_i64 _ (by omega)) ?_ | refine opv_run (addI _ _ _ _) ?_
            refine idx_int (by kernel_rfl) (by kernel_rfl) rd9 (by first | rfl | assumption | omega | (simp; done) | (simp [vals_length, *]; done) | (simp [vals_length] at *; omega)) (by omega) (by omega) (fun x9 hx9 => ?_)
            try simp only [Int.toNat_natCast] at hx9
            refine hJ3 _ _ ?_
            exact ⟨(congrArg (Value.int .i64) (by first | exact Gs.next_T (by omega) hx9 | exact Gs.next_F (by omega) hx6)), own3, h_b1, rd1, rd9, (by assumption), hF⟩
          · refine condf ?_
            refine hJ3 _ _ ?_
            exact ⟨(congrArg (Value.int .i64) (by first | exact Gs.next_T (by omega) hx9 | exact Gs.next_F (by omega) hx6)), own3, h_b1, rd1, rd9, (by assumption), hF⟩
        · obtain ⟨g6, own3, h_b1, rd1, rd9, hs9, hF⟩ := hI
          try rw [g6]
          refine drawn_S (S := ownS (v3)) (fun w10 U10 => ?_)
          replace own3 := own3.upd0 U10
          replace rd1 := rd1.upd0 U10
          replace rd9 := rd9.upd0 U10
          replace h_b1 := U10.get0 h_b1
          replace hF := hF.go0 U10
          refine qidx1 (by kernel_rfl) (by kernel_rfl) (fun w' hw' => rd9.updS hw' hs9) (Fr.refl _ _ _) (by first | rfl | assumption | omega | (simp; done) | (simp [vals_length, *]; done) | (simp [vals_length] at *; omega)) (by omega) (by omega) (fun x11 hx11 => ?_)
          try simp only [Int.toNat_natCast] at hx11
          have hbd37 := Gs.startsL_bd hx11
          refine qidx1 (by kernel_rfl) (by kernel_rfl) (fun w' hw' => rd9.updS hw' hs9) (Fr.refl _ _ _) (by first | rfl | assumption | omega | (simp; done) | (simp [vals_length, *]; done) | (simp [vals_length] at *; omega)) (by omega) (by omega) (fun x12 hx12 => ?_)
          try simp only [Int.toNat_natCast] at hx12
          have hbd42 := Gs.startsL_bd hx12
          have hnx := Gs.len_next hx12
          have hlb := Gs.all_in (Gs.all_atI hx12)
          have hlm : (Gs.atM cs x12).l = Gs.lenM cs x12 := rfl
          first | refine qop_run (fun w' hw' => (sub_i64 _ (by omega))) ?_ | refine qop_run (fun w' hw' => (subI _ _ _ _)) ?_
          first | refine qop_run (fun w' hw' => (sub_i64 _ (by omega))) ?_ | refine qop_run (fun w' hw' => (subI _ _ _ _)) ?_
          refine qop_run (fun w' hw' => (fieldAt_eq (off := 2) (by kernel_rfl))) ?_
          refine qop_run (fun w' hw' => by have h_b1 := hw'.get h_b1 (fun h => by first | exact Own.ne_blk own3 h_b1 (by decide) _ h rfl | (have := Own.ge own3 h; omega)); exact (ldC (by kernel_rfl) h_b1 (by rfl))) ?_
          refine qidx1 (by kernel_rfl) (by kernel_rfl) (fun w' hw' => rd9.updS hw' hs9) (Fr.refl _ _ _) (by first | rfl | assumption | omega | (simp; done) | (simp [vals_length, *]; done) | (simp [vals_length] at *; omega)) (by omega) (by omega) (fun x13 hx13 => ?_)
          try simp only [Int.toNat_natCast] at hx13
          have hbd50 := Gs.startsL_bd hx13
          refine qidx_rowF (off := 0) Gs.encC (fun x => .int .u8 x.b) (fun _ => rfl) (by decide) (by kernel_rfl) (by kernel_rfl) (by kernel_rfl) (fun w' hw' => rd1.updS hw' (lt_rd1.imp_right fun h k hk hs => by have := h k hk; have := (Own.ge own3 hs).1; omega)) (Fr.refl _ _ _) (by first | rfl | assumption | omega) (by omega) (by omega) (fun x14 hx14 => ?_)
          try simp only [Int.toNat_natCast] at hx14
          have hcb := hcw.get hx14
          refine qop_run (fun w' hw' => (rem_u8 _ (by omega) (by omega))) ?_
          refine qop_run (fun w' hw' => build_eq (l := [(0, 1), (1, 1), (2, 1)]) (z := #[.int .i64 0, .int .i64 0, .int .u8 0]) (cs := Gs.fv ⟨x11, Gs.nextL cs k - x12 - 1, x14.b % 64⟩) (by kernel_rfl) (by rfl)) ?_
          rw [Gs.all_val hx11 hx12 hx13 hx14]
          refine ext_intro (fun w16 U16 => ?_)
          replace own3 := own3.upd0 U16
          replace rd1 := rd1.upd0 U16
          replace rd9 := rd9.upd0 U16
          replace h_b1 := U16.get0 h_b1
          replace hF := hF.go0 U16
          refine lop_i ?_
          refine buildSlice_intro (e := 68) (m := 3) (z := #[.int .i64 0, .int .i64 0, .int .u8 0]) (by kernel_rfl) (by kernel_rfl) (by rfl) (by decide) (by first | (simp [fillL, splice, repL, Value.cells, Gs.cv, Gs.fv]; done) | (simp [fillL, splice, repL, Value.cells, Gs.cv, Gs.fv]; rfl)) (fun b17 w17 e17 h_b17 _ U17 => ?_)
          have na_own3_b17 := own3.apart e17
          have ne_b1_b17 : b1 ≠ b17 := by have := lt_get h_b1; omega
          have na_rd1_b17 := rd1.apart e17
          have na_rd9_b17 := rd9.apart e17
          have ge_b17 : w.heap.size ≤ b17 := by have := hF.size; omega
          replace own3 := own3.upd0 U17
          replace rd1 := rd1.upd0 U17
          replace rd9 := rd9.upd0 U17
          replace h_b1 := U17.get0 h_b1
          replace hF := hF.go0 U17
          clear e17
          refine ⟨U17.any, ?_⟩
          refine ext_intro (fun w18 U18 => ?_)
          replace own3 := own3.upd0 U18
          replace rd1 := rd1.upd0 U18
          replace rd9 := rd9.upd0 U18
          replace h_b1 := U18.get0 h_b1
          replace h_b17 := U18.get0 h_b17
          replace hF := hF.go0 U18
          refine lop_i ?_
          refine app_introA (e := 68) (size := 3) (bytes := 24) (by kernel_rfl) own3 (show Rd _ (some ⟨b17, 0, none⟩) (rows Gs.fv [(Gs.atM cs x11)]) from Rd.of_blockL h_b17) (by first | exact rows_len Gs.encF _ | (rw [rows_len Gs.encF]; omega)) (rows_one Gs.encF _) (by rw [rows_len Gs.encF, rows_len Gs.encF]; try simp only [List.length_nil, List.length_cons, List.length_take, List.length_append]; omega) (by have := hF.size; omega) (fun v19 w19 N19 hA19 U19 => ?_)
          have own3_o := own3
          have nb19_rd9 := ap_rd (S' := w18) hs9 rd9 hA19
          have nc19_b17 : ∀ k, ownS v19 k → k ≠ b17 := fun k hk e => Or.elim (hA19 k hk) (fun h => na_own3_b17 k h e) (fun h => by have := lt_get h_b17; omega)
          replace own3 := N19
          replace h_b1 := U19.get h_b1 (fun h => by first | (have := Own.ge own3_o h; omega) | exact Own.ne_blk own3_o h_b1 (by decide) _ h rfl | exact Own.not_loop own3_o h_b1 (by assumption) _ h rfl | exact Own.not_def own3_o h_b1 _ h rfl | simp_all)
          replace rd1 := rd1.updS U19 (lt_rd1.imp_right fun h k hk hs => by have := h k hk; have := (Own.ge own3_o hs).1; omega)
          replace rd9 := rd9.updS U19 hs9
          replace h_b17 := U19.get h_b17 (fun h => na_own3_b17 _ h rfl)
          replace hF := hF.go U19 (fun i h hs => by first | exact hs | exact .inl hs | exact .inr hs | (have := (Own.ge own3_o hs).1; omega))
          clear own3_o
          rw [rows_append] at own3
          try simp only [List.nil_append] at own3
          obtain ⟨A19, c19, rfl⟩ := Own.open Gs.encF own3
          refine ⟨U19, ?_⟩
          refine ext_intro (fun w20 U20 => ?_)
          replace own3 := own3.upd0 U20
          replace rd1 := rd1.upd0 U20
          replace rd9 := rd9.upd0 U20
          replace h_b1 := U20.get0 h_b1
          replace h_b17 := U20.get0 h_b17
          replace hF := hF.go0 U20
          first | refine opv_run (add_i64 _ (by omega)) ?_ | refine opv_run (addI _ _ _ _) ?_
          exact ⟨⟨k + 1, _, (by first | exact g5 | rfl), by omega, (by first | exact g3 | rfl), (by rw [← Gs.take_step (Gs.all_atI hx11)]; exact own3), h_b1, rd1, rd9, (by assumption), hF⟩, cnt_lt (by first | rfl | exact g5) rfl (by omega)⟩
      · refine condf ?_
        refine hJ1 _ _ ?_
        exact ⟨_, (by first | exact g3 | rfl), (by rw [List.take_of_length_le (by omega)] at own3; exact own3), hF⟩
  · obtain ⟨v3, g3, own3, hF⟩ := hI
    try rw [g3]
    (obtain ⟨A3, c3, rfl⟩ := Own.open Gs.encF own3; exact ⟨_, rfl, A3, c3, rfl, own3.rdS, .inr fun k hk => (own3.geb k hk).1, hF⟩)

/-- greenscreen/greenscreenref15.Places -/
theorem c_ref15_Places {r c cur : Int} {A : Option Addr} {n cp : Nat} {cs : List Gs.Cell} {w : World} (rd1 : Rd w A (rows Gs.cv cs)) (hn : n = cs.length) (hb : n ≤ 4096) {f : Gs.Fld} :
    Calls Tryz.prog 29 #[.agg #[.int .i64 r, .int .i64 c, .slice A n cp, .int .i64 cur], .agg (Gs.fv f).toArray] w fun e w' => ∃ v, e = .returned v ∧ ∃ A' c', v = .slice A' (Gs.placesL n f).length c' ∧ Rd w' A' (vals .i64 (Gs.placesL n f)) ∧ GeA A' (vals .i64 (Gs.placesL n f)) w.heap.size ∧ (Gs.placesL n f).length ≤ c' ∧ Upd no w w' := by
  refine F29.calls ?_
  unfold F29
  subst hn
  have lt_rd1 := rd1.lt
  have hF : Upd no w w := Fr.refl _ _ _
  refine box_intro (by rfl) (fun b1 w1 e1 h_b1 _ U1 => ?_)
  have na_rd1_b1 := rd1.apart e1
  have ge_b1 : w.heap.size ≤ b1 := by have := hF.size; omega
  replace rd1 := rd1.upd0 U1
  replace hF := hF.go0 U1
  clear e1
  refine box_intro (cs := (Gs.fv f).toArray) (by rfl) (fun b2 w2 e2 h_b2 _ U2 => ?_)
  have na_rd1_b2 := rd1.apart e2
  have ne_b1_b2 : b1 ≠ b2 := by have := lt_get h_b1; omega
  have ge_b2 : w.heap.size ≤ b2 := by have := hF.size; omega
  replace rd1 := rd1.upd0 U2
  replace h_b1 := U2.get0 h_b1
  replace hF := hF.go0 U2
  clear e2
  refine buildSlice_intro (e := 3) (m := 1) (z := #[.int .i64 0]) (by kernel_rfl) (by kernel_rfl) (by rfl) (by decide) (by first | (simp [fillL, splice, repL, Value.cells, Gs.cv, Gs.fv]; done) | (simp [fillL, splice, repL, Value.cells, Gs.cv, Gs.fv]; rfl)) (fun b3 w3 e3 h_b3 _ U3 => ?_)
  have na_rd1_b3 := rd1.apart e3
  have ne_b1_b3 : b1 ≠ b3 := by have := lt_get h_b1; omega
  have ne_b2_b3 : b2 ≠ b3 := by have := lt_get h_b2; omega
  have ge_b3 : w.heap.size ≤ b3 := by have := hF.size; omega
  replace rd1 := rd1.upd0 U3
  replace h_b1 := U3.get0 h_b1
  replace h_b2 := U3.get0 h_b2
  replace hF := hF.go0 U3
  clear e3
  refine opv_run (ldA (n := 4) (by kernel_rfl) h_b1 (by first | exact Nat.le_of_ble_eq_true rfl | (simp; done) | omega) (by rfl)) ?_
  refine opv_run (fieldAt_eq (off := 0) (by kernel_rfl)) ?_
  refine opv_run (ldC (by kernel_rfl) h_b2 (by rfl)) ?_
  refine callF_bool (c_greenscreenref14_Has (i := f.s) (n := cs.length)) (fun w4 U4 h4 => ?_) (fun w4 U4 h4 => ?_)
  · replace rd1 := rd1.upd0 U4
    replace h_b1 := U4.get0 h_b1
    replace h_b2 := U4.get0 h_b2
    replace h_b3 := U4.get0 h_b3
    replace hF := hF.go0 U4
    try simp only [decide_eq_true_eq, decide_eq_false_iff_not] at h4
    refine opv_run (notT) ?_
    refine condf ?_
    refine opv_run (fieldAt_eq (off := 1) (by kernel_rfl)) ?_
    refine opv_run (ldC (by kernel_rfl) h_b2 (by rfl)) ?_
    refine opv_run (fieldAt_eq (off := 2) (by kernel_rfl)) ?_
    refine opv_run (ldC (by kernel_rfl) h_b1 (by rfl)) ?_
    refine opv_run (len_sl (by kernel_rfl) _ _ _) ?_
    refine callF_val (c_greenscreenref01_Held (n := f.l) (lo := 0) (hi := cs.length)) (fun w5 U5 => ?_)
    replace rd1 := rd1.upd0 U5
    replace h_b1 := U5.get0 h_b1
    replace h_b2 := U5.get0 h_b2
    replace h_b3 := U5.get0 h_b3
    replace hF := hF.go0 U5
    have hpl := Gs.places_len (N := cs.length) (f := f) (by omega)
    have hple := Gs.places_le cs.length f
    refine join_cut (fun g w' => ∃ (v5 : Value), (g 5 = v5) ∧ (Own w.heap.size w' 3 1 v5 (vals .i64 (Gs.placesL cs.length f))) ∧ (Upd no w w')) (fun J1 hJ1 => ?_) (fun gJ1 wJ1 hI => ?_)
    · refine loop_intro (fun g w' => ∃ (k : Nat) (v5 : Value), (g 7 = .int .i64 ((k + 1 : Nat) : Int)) ∧ (k ≤ (Gs.placesL cs.length f).length) ∧ (g 5 = v5) ∧ (Own w.heap.size w' 3 1 v5 (vals .i64 ((Gs.placesL cs.length f).take k))) ∧ (w'.heap[b1]? = some (.cells #[.int .i64 r, .int .i64 c, .slice A cs.length cp, .int .i64 cur] 27 (0, 0))) ∧ (w'.heap[b2]? = some (.cells (Gs.fv f).toArray 68 (0, 0))) ∧ (Upd no w w')) (fun g w' => (Gs.placesL cs.length f).length + 1 - (RowKit.intOf (g 7)).toNat) ?_ (fun g2 wl2 hI => ?_)
      · exact ⟨0, _, rfl, (Nat.zero_le _), (by first | exact g5 | rfl), (Own.of_block (n := 0) h_b3 ge_b3 rfl (by decide)), h_b1, h_b2, hF⟩
      · obtain ⟨k, v5, g7, hk, g5, own5, h_b1, h_b2, hF⟩ := hI
        try rw [g7]
        try rw [g5]
        refine opv_dec (leq _ _ _ _) (fun h6 => ?_) (fun h6 => ?_)
        · refine condt ?_
          refine opv_run (fieldAt_eq (off := 0) (by kernel_rfl)) ?_
          refine opv_run (ldC (by kernel_rfl) h_b2 (by rfl)) ?_
          first | refine opv_run (add_i64 _ (by omega)) ?_ | refine opv_run (addI _ _ _ _) ?_
          refine opv_run (fieldAt_eq (off := 2) (by kernel_rfl)) ?_
          refine opv_run (ldC (by kernel_rfl) h_b1 (by rfl)) ?_
          refine opv_run (len_sl (by kernel_rfl) _ _ _) ?_
          refine opv_run (remN _ (by omega) (by omega) (by omega)) ?_
          refine buildSlice_intro (e := 3) (m := 1) (z := #[.int .i64 0]) (by kernel_rfl) (by kernel_rfl) (by rfl) (by decide) (by first | (simp [fillL, splice, repL, Value.cells, Gs.cv, Gs.fv]; done) | (simp [fillL, splice, repL, Value.cells, Gs.cv, Gs.fv]; rfl)) (fun b7 w7 e7 h_b7 _ U7 => ?_)
          have na_own5_b7 := own5.apart e7
          have ne_b1_b7 : b1 ≠ b7 := by have := lt_get h_b1; omega
          have ne_b2_b7 : b2 ≠ b7 := by have := lt_get h_b2; omega
          have ge_b7 : w.heap.size ≤ b7 := by have := hF.size; omega
          replace own5 := own5.upd0 U7
          replace h_b1 := U7.get0 h_b1
          replace h_b2 := U7.get0 h_b2
          replace hF := hF.go0 U7
          clear e7
          refine app_intro (e := 3) (size := 1) (bytes := 8) (by kernel_rfl) own5 (Rd.of_blockL h_b7) rfl (by first | (simp [Value.oneCell']; done) | (intro u hu; simp only [List.mem_singleton] at hu; subst hu; rfl) | (simp; intros; subst_vars; rfl)) (by simp only [vals_length, List.length_take, List.length_cons, List.length_nil, List.length_append, List.length_map, List.length_range]; omega) (by have := hF.size; omega) (fun v8 w8 N8 U8 => ?_)
          have own5_o := own5
          replace own5 := N8
          replace h_b1 := U8.get h_b1 (fun h => by first | (have := Own.ge own5_o h; omega) | exact Own.ne_blk own5_o h_b1 (by decide) _ h rfl | exact Own.not_loop own5_o h_b1 (by assumption) _ h rfl | exact Own.not_def own5_o h_b1 _ h rfl | simp_all)
          replace h_b2 := U8.get h_b2 (fun h => by first | (have := Own.ge own5_o h; omega) | exact Own.ne_blk own5_o h_b2 (by decide) _ h rfl | exact Own.not_loop own5_o h_b2 (by assumption) _ h rfl | exact Own.not_def own5_o h_b2 _ h rfl | simp_all)
          replace h_b7 := U8.get h_b7 (fun h => na_own5_b7 _ h rfl)
          replace hF := hF.go U8 (fun i h hs => by first | exact hs | exact .inl hs | exact .inr hs | (have := (Own.ge own5_o hs).1; omega))
          clear own5_o
          first | refine opv_run (add_i64 _ (by omega)) ?_ | refine opv_run (addI _ _ _ _) ?_
          exact ⟨⟨k + 1, _, rfl, (by omega), (by first | exact g5 | rfl), (by rw [← Gs.take_step (Gs.places_at (by omega))]; exact own_snoc own5), h_b1, h_b2, hF⟩, cnt_lt (by first | exact g7 | rfl) rfl (by omega)⟩
        · refine condf ?_
          refine hJ1 _ _ ?_
          exact ⟨_, (by first | exact g5 | rfl), (by rw [List.take_of_length_le (by omega)] at own5; exact own5), hF⟩
    · obtain ⟨v5, g5, own5, hF⟩ := hI
      try rw [g5]
      first | (obtain ⟨A3, c3, rfl, rd3, lc3⟩ := own5.rd1c; exact ⟨_, rfl, A3, c3, rfl, rd3, .inr fun k hk => (own5.geb k hk).1, lc3, hF⟩) | (rw [Gs.places_no (by omega)]; exact ⟨_, rfl, _, _, rfl, Rd.nil _ _, .inl rfl, Nat.zero_le _, hF⟩)
  · replace rd1 := rd1.upd0 U4
    replace h_b1 := U4.get0 h_b1
    replace h_b2 := U4.get0 h_b2
    replace h_b3 := U4.get0 h_b3
    replace hF := hF.go0 U4
    try simp only [decide_eq_true_eq, decide_eq_false_iff_not] at h4
    refine opv_run (notF) ?_
    refine condt ?_
    first | (obtain ⟨A3, c3, rfl, rd3, lc3⟩ := own5.rd1c; exact ⟨_, rfl, A3, c3, rfl, rd3, .inr fun k hk => (own5.geb k hk).1, lc3, hF⟩) | (rw [Gs.places_no (by omega)]; exact ⟨_, rfl, _, _, rfl, Rd.nil _ _, .inl rfl, Nat.zero_le _, hF⟩)

end Go.Proofs.YtkjkmahpkfbbnaaGreatDoor
