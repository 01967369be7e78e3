/-
  Contracts of functions of the program, walked over their shallow forms. No condition but the ones that each states.
-/
import Derived.Test.YtojcbhkhfcddnaaFh
import Derived.Test.YtojcbhkhfcddnaaFieldRef
namespace Go.Proofs.Ytojcbhkhfcddnaa
open Go Go.Sh
set_option linter.unusedVariables false
set_option maxRecDepth 100000


/-- greenscreen/greenscreenref15.Starts -/
theorem c_ref15_Starts {r c cur : Int} {A : Option Addr} {n cp : Nat} {cs : List Gs.Cell} {w : World} (rd1 : Rd w A (rows Gs.cv cs)) (hn : n = cs.length) (hb : n ≤ 4096) :
    Calls Try.prog 39 #[.agg #[.int .i64 r, .int .i64 c, .slice A n cp, .int .i64 cur]] w fun e w' => ∃ v, e = .returned v ∧ ∃ A' c', v = .slice A' (Gs.startsL cs).length c' ∧ Rd w' A' (vals .i64 (Gs.startsL cs)) ∧ GeA A' (vals .i64 (Gs.startsL cs)) w.heap.size ∧ Upd no w w' := by
  refine F39.calls ?_
  unfold F39
  subst hn
  have lt_rd1 := Rd.lt rd1
  have hF : Upd no w w := Fr.refl _ _ _
  refine box_intro (by rfl) (fun b1 w1 e1 h_b1 _ U1 => ?_)
  have na_rd1_b1 := rd1.apart e1
  have ge_b1 : w.heap.size ≤ b1 := by have := hF.size; omega
  replace rd1 := rd1.upd0 U1
  replace hF := hF.go0 U1
  clear e1
  refine buildSlice_intro (e := 3) (m := 1) (z := #[.int .i64 0]) (by kernel_rfl) (by kernel_rfl) (by rfl) (by decide) (by first | (simp [fillL, splice, repL, Value.cells, Gs.cv, Gs.fv]; done) | (simp [fillL, splice, repL, Value.cells, Gs.cv, Gs.fv]; rfl)) (fun b2 w2 e2 h_b2 _ U2 => ?_)
  have na_rd1_b2 := rd1.apart e2
  have ne_b1_b2 : b1 ≠ b2 := by have := lt_get h_b1; omega
  have ge_b2 : w.heap.size ≤ b2 := by have := hF.size; omega
  replace rd1 := rd1.upd0 U2
  replace h_b1 := U2.get0 h_b1
  replace hF := hF.go0 U2
  clear e2
  refine join_cut (fun g w' => ∃ (v3 : Value), (g 3 = v3) ∧ (Own w.heap.size w' 3 1 v3 (vals .i64 (Gs.startsL cs))) ∧ (Upd no w w')) (fun J1 hJ1 => ?_) (fun gJ1 wJ1 hI => ?_)
  · refine loop_intro (fun g w' => ∃ (k : Nat) (v3 : Value), (g 4 = .int .i64 (k : Int)) ∧ (k ≤ cs.length) ∧ (g 3 = v3) ∧ (Own w.heap.size w' 3 1 v3 (vals .i64 ((Gs.startsL cs).take (Gs.cntS cs k)))) ∧ (w'.heap[b1]? = some (.cells #[.int .i64 r, .int .i64 c, .slice A cs.length cp, .int .i64 cur] 28 (0, 0))) ∧ (Rd w' A (rows Gs.cv cs)) ∧ (Upd no w w')) (fun g w' => cs.length - (RowKit.intOf (g 4)).toNat) ?_ (fun g2 wl2 hI => ?_)
    · exact ⟨0, _, (by first | exact g4 | rfl), Nat.zero_le _, (by first | exact g3 | rfl), (Own.of_block (n := 0) h_b2 ge_b2 rfl (by decide)), h_b1, rd1, hF⟩
    · obtain ⟨k, v3, g4, hk, g3, own3, h_b1, rd1, hF⟩ := hI
      try rw [g4]
      try rw [g3]
      have hsl := Gs.starts_len_le cs
      have hstl := Gs.startsL_len cs
      refine opv_run (fieldAt_eq (off := 2) (by kernel_rfl)) ?_
      refine opv_run (ldC (by kernel_rfl) h_b1 (by rfl)) ?_
      refine opv_run (len_sl (by kernel_rfl) _ _ _) ?_
      refine opv_dec (lss _ _ _ _) (fun h3 => ?_) (fun h3 => ?_)
      · refine condt ?_
        refine join_cut (fun g w' => ∃ (v3 : Value), (g 3 = v3) ∧ (Own w.heap.size w' 3 1 v3 (vals .i64 ((Gs.startsL cs).take (Gs.cntS cs (k + 1))))) ∧ (w'.heap[b1]? = some (.cells #[.int .i64 r, .int .i64 c, .slice A cs.length cp, .int .i64 cur] 28 (0, 0))) ∧ (Rd w' A (rows Gs.cv cs)) ∧ (Upd no w w')) (fun J3 hJ3 => ?_) (fun gJ3 wJ3 hI => ?_)
        · refine opv_run (fieldAt_eq (off := 2) (by kernel_rfl)) ?_
          refine opv_run (ldC (by kernel_rfl) h_b1 (by rfl)) ?_
          refine idx_rowF (off := 2) Gs.encC (fun x => .bool x.st) (fun _ => rfl) (by decide) (by kernel_rfl) (by kernel_rfl) (by kernel_rfl) rd1 (by first | rfl | assumption | omega) (by omega) (by omega) (fun x4 hx4 => ?_)
          try simp only [Int.toNat_natCast] at hx4
          refine cond_intro (fun h5 => ?_) (fun h5 => ?_)
          · try simp only [decide_eq_true_eq, decide_eq_false_iff_not] at h5
            refine buildSlice_intro (e := 3) (m := 1) (z := #[.int .i64 0]) (by kernel_rfl) (by kernel_rfl) (by rfl) (by decide) (by first | (simp [fillL, splice, repL, Value.cells, Gs.cv, Gs.fv]; done) | (simp [fillL, splice, repL, Value.cells, Gs.cv, Gs.fv]; rfl)) (fun b6 w6 e6 h_b6 _ U6 => ?_)
            have na_own3_b6 := own3.apart e6
            have ne_b1_b6 : b1 ≠ b6 := by have := lt_get h_b1; omega
            have na_rd1_b6 := rd1.apart e6
            have ge_b6 : w.heap.size ≤ b6 := by have := hF.size; omega
            replace own3 := own3.upd0 U6
            replace rd1 := rd1.upd0 U6
            replace h_b1 := U6.get0 h_b1
            replace hF := hF.go0 U6
            clear e6
            refine app_intro (e := 3) (size := 1) (bytes := 8) (by kernel_rfl) own3 (Rd.of_blockL h_b6) rfl (by first | (simp [Value.oneCell']; done) | (intro u hu; simp only [List.mem_singleton] at hu; subst hu; rfl) | (simp; intros; subst_vars; rfl)) (by simp only [vals_length, List.length_take, List.length_cons, List.length_nil, List.length_append, List.length_map, List.length_range]; omega) (by have := hF.size; omega) (fun v7 w7 N7 U7 => ?_)
            have own3_o := own3
            replace own3 := N7
            replace h_b1 := U7.get h_b1 (fun h => by first | (have := Own.ge own3_o h; omega) | exact Own.ne_blk own3_o h_b1 (by decide) _ h rfl | exact Own.not_loop own3_o h_b1 (by assumption) _ h rfl | exact Own.not_def own3_o h_b1 _ h rfl | simp_all)
            replace rd1 := rd1.updS U7 (lt_rd1.imp_right fun h k hk hs => by have := h k hk; have := (Own.ge own3_o hs).1; omega)
            replace h_b6 := U7.get h_b6 (fun h => na_own3_b6 _ h rfl)
            replace hF := hF.go U7 (fun i h hs => by first | exact hs | exact .inl hs | exact .inr hs | (have := (Own.ge own3_o hs).1; omega))
            clear own3_o
            refine hJ3 _ _ ?_
            exact ⟨_, (by first | exact g3 | rfl), (by first | (rw [← Gs.starts_step_T hx4 (by assumption)]; exact own_snoc own3) | (rw [Gs.starts_step_F hx4 (by first | assumption | simp_all)]; exact own3)), h_b1, rd1, hF⟩
          · try simp only [decide_eq_true_eq, decide_eq_false_iff_not] at h5
            refine hJ3 _ _ ?_
            exact ⟨_, (by first | exact g3 | rfl), (by first | (rw [← Gs.starts_step_T hx4 (by assumption)]; exact own_snoc own3) | (rw [Gs.starts_step_F hx4 (by first | assumption | simp_all)]; exact own3)), h_b1, rd1, hF⟩
        · obtain ⟨v3, g3, own3, h_b1, rd1, hF⟩ := hI
          try rw [g3]
          first | refine opv_run (add_i64 _ (by omega)) ?_ | refine opv_run (addI _ _ _ _) ?_
          exact ⟨⟨k + 1, _, (by first | exact g4 | rfl), by omega, (by first | exact g3 | rfl), own3, h_b1, rd1, hF⟩, cnt_lt (by first | rfl | exact g4) rfl (by omega)⟩
      · refine condf ?_
        refine hJ1 _ _ ?_
        exact ⟨_, (by first | exact g3 | rfl), (by rw [show k = cs.length by omega, Gs.starts_done] at own3; exact own3), hF⟩
  · obtain ⟨v3, g3, own3, hF⟩ := hI
    try rw [g3]
    (obtain ⟨A3, c3, rfl, rd3⟩ := own3.rd1; exact ⟨_, rfl, A3, c3, rfl, rd3, .inr fun k hk => (own3.geb k hk).1, hF⟩)

/-- greenscreen/greenscreenref15.All -/
theorem c_ref15_All {r c cur : Int} {A : Option Addr} {n cp : Nat} {cs : List Gs.Cell} {w : World} (rd1 : Rd w A (rows Gs.cv cs)) (hn : n = cs.length) (hb : n ≤ 4096) (hcw : Gs.Cws cs) :
    Calls Try.prog 10 #[.agg #[.int .i64 r, .int .i64 c, .slice A n cp, .int .i64 cur]] w fun e w' => ∃ v, e = .returned v ∧ ∃ A' c', v = .slice A' (Gs.allM cs).length c' ∧ Rd w' A' (rows Gs.fv (Gs.allM cs)) ∧ GeA A' (rows Gs.fv (Gs.allM cs)) w.heap.size ∧ Upd no w w' := by
  refine F10.calls ?_
  unfold F10
  subst hn
  have lt_rd1 := Rd.lt rd1
  have hF : Upd no w w := Fr.refl _ _ _
  refine box_intro (by rfl) (fun b1 w1 e1 h_b1 _ U1 => ?_)
  have na_rd1_b1 := rd1.apart e1
  have ge_b1 : w.heap.size ≤ b1 := by have := hF.size; omega
  replace rd1 := rd1.upd0 U1
  replace hF := hF.go0 U1
  clear e1
  refine buildSlice_intro (e := 40) (m := 3) (z := #[.int .i64 0, .int .i64 0, .int .u8 0]) (by kernel_rfl) (by kernel_rfl) (by rfl) (by decide) (by first | (simp [fillL, splice, repL, Value.cells, Gs.cv, Gs.fv]; done) | (simp [fillL, splice, repL, Value.cells, Gs.cv, Gs.fv]; rfl)) (fun b2 w2 e2 h_b2 _ U2 => ?_)
  have na_rd1_b2 := rd1.apart e2
  have ne_b1_b2 : b1 ≠ b2 := by have := lt_get h_b1; omega
  have ge_b2 : w.heap.size ≤ b2 := by have := hF.size; omega
  replace rd1 := rd1.upd0 U2
  replace h_b1 := U2.get0 h_b1
  replace hF := hF.go0 U2
  clear e2
  have own_b2 := Own.of_block (n := 0) (xs := rows Gs.fv []) (size := 3) h_b2 ge_b2 rfl (by decide)
  refine opv_run (ldA (n := 4) (by kernel_rfl) h_b1 (by first | exact Nat.le_of_ble_eq_true rfl | (simp; done) | omega) (by rfl)) ?_
  refine callF_ex (c_ref15_Starts rd1 rfl hb) (fun v3 w3 D3 => ?_)
  obtain ⟨A9, c9, rfl, rd9, gA9, U3⟩ := D3
  have na_rd9_b1 := gA9.ne (lt_get h_b1)
  have na_rd9_own_b2 : _ ∨ ∀ k, blkOf _ k → ¬ ownS _ k := gA9.imp_right fun h k hk hs => by have := h k hk; have := (Own.ge own_b2 hs).2; omega
  replace rd1 := rd1.upd0 U3
  replace own_b2 := own_b2.upd0 U3
  replace h_b1 := U3.get0 h_b1
  replace hF := hF.go0 U3
  refine join_cut (fun g w' => ∃ (v3 : Value), (g 3 = v3) ∧ (Own w.heap.size w' 40 3 v3 (rows Gs.fv (Gs.allM cs))) ∧ (Upd no w w')) (fun J1 hJ1 => ?_) (fun gJ1 wJ1 hI => ?_)
  · refine loop_intro (fun g w' => ∃ (k : Nat) (v3 : Value), (g 5 = .int .i64 (k : Int)) ∧ (k ≤ (Gs.startsL cs).length) ∧ (g 3 = v3) ∧ (Own w.heap.size w' 40 3 v3 (rows Gs.fv ((Gs.allM cs).take k))) ∧ (w'.heap[b1]? = some (.cells #[.int .i64 r, .int .i64 c, .slice A cs.length cp, .int .i64 cur] 28 (0, 0))) ∧ (Rd w' A (rows Gs.cv cs)) ∧ (Rd w' A9 (vals .i64 (Gs.startsL cs))) ∧ (vals .i64 (Gs.startsL cs) = [] ∨ ∀ k, blkOf A9 k → ¬ ownS v3 k) ∧ (Upd no w w')) (fun g w' => (Gs.startsL cs).length - (RowKit.intOf (g 5)).toNat) ?_ (fun g2 wl2 hI => ?_)
    · exact ⟨0, _, (by first | exact g5 | rfl), Nat.zero_le _, (by first | exact g3 | rfl), (by rw [List.take_zero]; exact own_b2), h_b1, rd1, rd9, (by assumption), hF⟩
    · obtain ⟨k, v3, g5, hk, g3, own3, h_b1, rd1, rd9, hs9, hF⟩ := hI
      try rw [g5]
      try rw [g3]
      have hsl := Gs.starts_len_le cs
      have hstl := Gs.startsL_len cs
      have hal := Gs.allM_len cs
      refine opv_run (len_sl (by kernel_rfl) _ _ _) ?_
      refine opv_dec (lss _ _ _ _) (fun h4 => ?_) (fun h4 => ?_)
      · refine condt ?_
        refine drawn_S (S := no) (fun w5 U5 => ?_)
        replace own3 := own3.upd0 U5
        replace rd1 := rd1.upd0 U5
        replace rd9 := rd9.upd0 U5
        replace h_b1 := U5.get0 h_b1
        replace hF := hF.go0 U5
        refine qidx1 (by kernel_rfl) (by kernel_rfl) (fun w' hw' => rd9.upd0 hw') (Fr.refl _ _ _) (by first | rfl | assumption | omega | (simp; done) | (simp [vals_length, *]; done) | (simp [vals_length] at *; omega)) (by omega) (by omega) (fun x6 hx6 => ?_)
        try simp only [Int.toNat_natCast] at hx6
        have hbd18 := Gs.startsL_bd hx6
        refine qop_run (fun w' hw' => (fieldAt_eq (off := 2) (by kernel_rfl))) ?_
        refine qop_run (fun w' hw' => by have h_b1 := hw'.get0 h_b1; exact (ldC (by kernel_rfl) h_b1 (by rfl))) ?_
        refine qop_run (fun w' hw' => (len_sl (by kernel_rfl) _ _ _)) ?_
        first | refine qop_run (fun w' hw' => (add_i64 _ (by omega))) ?_ | refine qop_run (fun w' hw' => (addI _ _ _ _)) ?_
        refine ext_intro (fun w7 U7 => ?_)
        replace own3 := own3.upd0 U7
        replace rd1 := rd1.upd0 U7
        replace rd9 := rd9.upd0 U7
        replace h_b1 := U7.get0 h_b1
        replace hF := hF.go0 U7
        refine join_cut (fun g w' => (g 6 = .int .i64 (Gs.nextL cs k)) ∧ (Own w.heap.size w' 40 3 v3 (rows Gs.fv ((Gs.allM cs).take k))) ∧ (w'.heap[b1]? = some (.cells #[.int .i64 r, .int .i64 c, .slice A cs.length cp, .int .i64 cur] 28 (0, 0))) ∧ (Rd w' A (rows Gs.cv cs)) ∧ (Rd w' A9 (vals .i64 (Gs.startsL cs))) ∧ (vals .i64 (Gs.startsL cs) = [] ∨ ∀ k, blkOf A9 k → ¬ ownS v3 k) ∧ (Upd no w w')) (fun J3 hJ3 => ?_) (fun gJ3 wJ3 hI => ?_)
        · first | refine opv_run (add_i64 _ (by omega)) ?_ | refine opv_run (addI _ _ _ _) ?_
          refine opv_run (len_sl (by kernel_rfl) _ _ _) ?_
          refine opv_dec (lss _ _ _ _) (fun h8 => ?_) (fun h8 => ?_)
          · refine condt ?_
            first | refine opv_run (add_i64 _ (by omega)) ?_ | refine opv_run (addI _ _ _ _) ?_
            refine idx_int (by kernel_rfl) (by kernel_rfl) rd9 (by first | rfl | assumption | omega | (simp; done) | (simp [vals_length, *]; done) | (simp [vals_length] at *; omega)) (by omega) (by omega) (fun x9 hx9 => ?_)
            try simp only [Int.toNat_natCast] at hx9
            refine hJ3 _ _ ?_
            exact ⟨(congrArg (Value.int .i64) (by first | exact Gs.next_T (by omega) hx9 | exact Gs.next_F (by omega) hx6)), own3, h_b1, rd1, rd9, (by assumption), hF⟩
          · refine condf ?_
            refine hJ3 _ _ ?_
            exact ⟨(congrArg (Value.int .i64) (by first | exact Gs.next_T (by omega) hx9 | exact Gs.next_F (by omega) hx6)), own3, h_b1, rd1, rd9, (by assumption), hF⟩
        · obtain ⟨g6, own3, h_b1, rd1, rd9, hs9, hF⟩ := hI
          try rw [g6]
          refine drawn_S (S := ownS (v3)) (fun w10 U10 => ?_)
          replace own3 := own3.upd0 U10
          replace rd1 := rd1.upd0 U10
          replace rd9 := rd9.upd0 U10
          replace h_b1 := U10.get0 h_b1
          replace hF := hF.go0 U10
          refine qidx1 (by kernel_rfl) (by kernel_rfl) (fun w' hw' => rd9.updS hw' hs9) (Fr.refl _ _ _) (by first | rfl | assumption | omega | (simp; done) | (simp [vals_length, *]; done) | (simp [vals_length] at *; omega)) (by omega) (by omega) (fun x11 hx11 => ?_)
          try simp only [Int.toNat_natCast] at hx11
          have hbd37 := Gs.startsL_bd hx11
          refine qidx1 (by kernel_rfl) (by kernel_rfl) (fun w' hw' => rd9.updS hw' hs9) (Fr.refl _ _ _) (by first | rfl | assumption | omega | (simp; done) | (simp [vals_length, *]; done) | (simp [vals_length] at *; omega)) (by omega) (by omega) (fun x12 hx12 => ?_)
          try simp only [Int.toNat_natCast] at hx12
          have hbd42 := Gs.startsL_bd hx12
          have hnx := Gs.len_next hx12
          have hlb := Gs.all_in (Gs.all_atI hx12)
          have hlm : (Gs.atM cs x12).l = Gs.lenM cs x12 := rfl
          first | refine qop_run (fun w' hw' => (sub_i64 _ (by omega))) ?_ | refine qop_run (fun w' hw' => (subI _ _ _ _)) ?_
          first | refine qop_run (fun w' hw' => (sub_i64 _ (by omega))) ?_ | refine qop_run (fun w' hw' => (subI _ _ _ _)) ?_
          refine qop_run (fun w' hw' => (fieldAt_eq (off := 2) (by kernel_rfl))) ?_
          refine qop_run (fun w' hw' => by have h_b1 := hw'.get h_b1 (fun h => by first | exact Own.ne_blk own3 h_b1 (by decide) _ h rfl | (have := Own.ge own3 h; omega)); exact (ldC (by kernel_rfl) h_b1 (by rfl))) ?_
          refine qidx1 (by kernel_rfl) (by kernel_rfl) (fun w' hw' => rd9.updS hw' hs9) (Fr.refl _ _ _) (by first | rfl | assumption | omega | (simp; done) | (simp [vals_length, *]; done) | (simp [vals_length] at *; omega)) (by omega) (by omega) (fun x13 hx13 => ?_)
          try simp only [Int.toNat_natCast] at hx13
          have hbd50 := Gs.startsL_bd hx13
          refine qidx_rowF (off := 0) Gs.encC (fun x => .int .u8 x.b) (fun _ => rfl) (by decide) (by kernel_rfl) (by kernel_rfl) (by kernel_rfl) (fun w' hw' => rd1.updS hw' (lt_rd1.imp_right fun h k hk hs => by have := h k hk; have := (Own.ge own3 hs).1; omega)) (Fr.refl _ _ _) (by first | rfl | assumption | omega) (by omega) (by omega) (fun x14 hx14 => ?_)
          try simp only [Int.toNat_natCast] at hx14
          have hcb := hcw.get hx14
          refine qop_run (fun w' hw' => (rem_u8 _ (by omega) (by omega))) ?_
          refine qop_run (fun w' hw' => build_eq (l := [(0, 1), (1, 1), (2, 1)]) (z := #[.int .i64 0, .int .i64 0, .int .u8 0]) (cs := Gs.fv ⟨x11, Gs.nextL cs k - x12 - 1, x14.b % 64⟩) (by kernel_rfl) (by rfl)) ?_
          rw [Gs.all_val hx11 hx12 hx13 hx14]
          refine ext_intro (fun w16 U16 => ?_)
          replace own3 := own3.upd0 U16
          replace rd1 := rd1.upd0 U16
          replace rd9 := rd9.upd0 U16
          replace h_b1 := U16.get0 h_b1
          replace hF := hF.go0 U16
          refine lop_i ?_
          refine buildSlice_intro (e := 40) (m := 3) (z := #[.int .i64 0, .int .i64 0, .int .u8 0]) (by kernel_rfl) (by kernel_rfl) (by rfl) (by decide) (by first | (simp [fillL, splice, repL, Value.cells, Gs.cv, Gs.fv]; done) | (simp [fillL, splice, repL, Value.cells, Gs.cv, Gs.fv]; rfl)) (fun b17 w17 e17 h_b17 _ U17 => ?_)
          have na_own3_b17 := own3.apart e17
          have ne_b1_b17 : b1 ≠ b17 := by have := lt_get h_b1; omega
          have na_rd1_b17 := rd1.apart e17
          have na_rd9_b17 := rd9.apart e17
          have ge_b17 : w.heap.size ≤ b17 := by have := hF.size; omega
          replace own3 := own3.upd0 U17
          replace rd1 := rd1.upd0 U17
          replace rd9 := rd9.upd0 U17
          replace h_b1 := U17.get0 h_b1
          replace hF := hF.go0 U17
          clear e17
          refine ⟨U17.any, ?_⟩
          refine ext_intro (fun w18 U18 => ?_)
          replace own3 := own3.upd0 U18
          replace rd1 := rd1.upd0 U18
          replace rd9 := rd9.upd0 U18
          replace h_b1 := U18.get0 h_b1
          replace h_b17 := U18.get0 h_b17
          replace hF := hF.go0 U18
          refine lop_i ?_
          refine app_introA (e := 40) (size := 3) (bytes := 24) (by kernel_rfl) own3 (show Rd _ (some ⟨b17, 0, none⟩) (rows Gs.fv [(Gs.atM cs x11)]) from Rd.of_blockL h_b17) (by first | exact rows_len Gs.encF _ | (rw [rows_len Gs.encF]; omega)) (rows_one Gs.encF _) (by rw [rows_len Gs.encF, rows_len Gs.encF]; try simp only [List.length_nil, List.length_cons, List.length_take, List.length_append]; omega) (by have := hF.size; omega) (fun v19 w19 N19 hA19 U19 => ?_)
          have own3_o := own3
          have nb19_rd9 := ap_rd (S' := w18) hs9 rd9 hA19
          replace own3 := N19
          replace h_b1 := U19.get h_b1 (fun h => by first | (have := Own.ge own3_o h; omega) | exact Own.ne_blk own3_o h_b1 (by decide) _ h rfl | exact Own.not_loop own3_o h_b1 (by assumption) _ h rfl | exact Own.not_def own3_o h_b1 _ h rfl | simp_all)
          replace rd1 := rd1.updS U19 (lt_rd1.imp_right fun h k hk hs => by have := h k hk; have := (Own.ge own3_o hs).1; omega)
          replace rd9 := rd9.updS U19 hs9
          replace h_b17 := U19.get h_b17 (fun h => na_own3_b17 _ h rfl)
          replace hF := hF.go U19 (fun i h hs => by first | exact hs | exact .inl hs | exact .inr hs | (have := (Own.ge own3_o hs).1; omega))
          clear own3_o
          rw [rows_append] at own3
          try simp only [List.nil_append] at own3
          obtain ⟨A19, c19, rfl⟩ := Own.open Gs.encF own3
          refine ⟨U19, ?_⟩
          refine ext_intro (fun w20 U20 => ?_)
          replace own3 := own3.upd0 U20
          replace rd1 := rd1.upd0 U20
          replace rd9 := rd9.upd0 U20
          replace h_b1 := U20.get0 h_b1
          replace h_b17 := U20.get0 h_b17
          replace hF := hF.go0 U20
          first | refine opv_run (add_i64 _ (by omega)) ?_ | refine opv_run (addI _ _ _ _) ?_
          exact ⟨⟨k + 1, _, (by first | exact g5 | rfl), by omega, (by first | exact g3 | rfl), (by rw [← Gs.take_step (Gs.all_atI hx11)]; exact own3), h_b1, rd1, rd9, (by assumption), hF⟩, cnt_lt (by first | rfl | exact g5) rfl (by omega)⟩
      · refine condf ?_
        refine hJ1 _ _ ?_
        exact ⟨_, (by first | exact g3 | rfl), (by rw [List.take_of_length_le (by omega)] at own3; exact own3), hF⟩
  · obtain ⟨v3, g3, own3, hF⟩ := hI
    try rw [g3]
    (obtain ⟨A3, c3, rfl⟩ := Own.open Gs.encF own3; exact ⟨_, rfl, A3, c3, rfl, own3.rdS, .inr fun k hk => (own3.geb k hk).1, hF⟩)

/-- greenscreen/greenscreenref15.Places -/
theorem c_ref15_Places {r c cur : Int} {A : Option Addr} {n cp : Nat} {cs : List Gs.Cell} {w : World} (rd1 : Rd w A (rows Gs.cv cs)) (hn : n = cs.length) (hb : n ≤ 4096) {f : Gs.Fld} :
    Calls Try.prog 15 #[.agg #[.int .i64 r, .int .i64 c, .slice A n cp, .int .i64 cur], .agg (Gs.fv f).toArray] w fun e w' => ∃ v, e = .returned v ∧ ∃ A' c', v = .slice A' (Gs.placesL n f).length c' ∧ Rd w' A' (vals .i64 (Gs.placesL n f)) ∧ GeA A' (vals .i64 (Gs.placesL n f)) w.heap.size ∧ (Gs.placesL n f).length ≤ c' ∧ Upd no w w' := by
  refine F15.calls ?_
  unfold F15
  subst hn
  have lt_rd1 := Rd.lt rd1
  have hF : Upd no w w := Fr.refl _ _ _
  refine box_intro (by rfl) (fun b1 w1 e1 h_b1 _ U1 => ?_)
  have na_rd1_b1 := rd1.apart e1
  have ge_b1 : w.heap.size ≤ b1 := by have := hF.size; omega
  replace rd1 := rd1.upd0 U1
  replace hF := hF.go0 U1
  clear e1
  refine box_intro (cs := (Gs.fv f).toArray) (by rfl) (fun b2 w2 e2 h_b2 _ U2 => ?_)
  have na_rd1_b2 := rd1.apart e2
  have ne_b1_b2 : b1 ≠ b2 := by have := lt_get h_b1; omega
  have ge_b2 : w.heap.size ≤ b2 := by have := hF.size; omega
  replace rd1 := rd1.upd0 U2
  replace h_b1 := U2.get0 h_b1
  replace hF := hF.go0 U2
  clear e2
  refine buildSlice_intro (e := 3) (m := 1) (z := #[.int .i64 0]) (by kernel_rfl) (by kernel_rfl) (by rfl) (by decide) (by first | (simp [fillL, splice, repL, Value.cells, Gs.cv, Gs.fv]; done) | (simp [fillL, splice, repL, Value.cells, Gs.cv, Gs.fv]; rfl)) (fun b3 w3 e3 h_b3 _ U3 => ?_)
  have na_rd1_b3 := rd1.apart e3
  have ne_b1_b3 : b1 ≠ b3 := by have := lt_get h_b1; omega
  have ne_b2_b3 : b2 ≠ b3 := by have := lt_get h_b2; omega
  have ge_b3 : w.heap.size ≤ b3 := by have := hF.size; omega
  replace rd1 := rd1.upd0 U3
  replace h_b1 := U3.get0 h_b1
  replace h_b2 := U3.get0 h_b2
  replace hF := hF.go0 U3
  clear e3
  refine opv_run (ldA (n := 4) (by kernel_rfl) h_b1 (by first | exact Nat.le_of_ble_eq_true rfl | (simp; done) | omega) (by rfl)) ?_
  refine opv_run (fieldAt_eq (off := 0) (by kernel_rfl)) ?_
  refine opv_run (ldC (by kernel_rfl) h_b2 (by rfl)) ?_
  refine callF_bool (c_greenscreenref14_Has (i := f.s) (n := cs.length)) (fun w4 U4 h4 => ?_) (fun w4 U4 h4 => ?_)
  · replace rd1 := rd1.upd0 U4
    replace h_b1 := U4.get0 h_b1
    replace h_b2 := U4.get0 h_b2
    replace h_b3 := U4.get0 h_b3
    replace hF := hF.go0 U4
    try simp only [decide_eq_true_eq, decide_eq_false_iff_not] at h4
    refine opv_run (notT) ?_
    refine condf ?_
    refine opv_run (fieldAt_eq (off := 1) (by kernel_rfl)) ?_
    refine opv_run (ldC (by kernel_rfl) h_b2 (by rfl)) ?_
    refine opv_run (fieldAt_eq (off := 2) (by kernel_rfl)) ?_
    refine opv_run (ldC (by kernel_rfl) h_b1 (by rfl)) ?_
    refine opv_run (len_sl (by kernel_rfl) _ _ _) ?_
    refine callF_val (c_greenscreenref01_Held (n := f.l) (lo := 0) (hi := cs.length)) (fun w5 U5 => ?_)
    replace rd1 := rd1.upd0 U5
    replace h_b1 := U5.get0 h_b1
    replace h_b2 := U5.get0 h_b2
    replace h_b3 := U5.get0 h_b3
    replace hF := hF.go0 U5
    have hpl := Gs.places_len (N := cs.length) (f := f) (by omega)
    have hple := Gs.places_le cs.length f
    refine join_cut (fun g w' => ∃ (v5 : Value), (g 5 = v5) ∧ (Own w.heap.size w' 3 1 v5 (vals .i64 (Gs.placesL cs.length f))) ∧ (Upd no w w')) (fun J1 hJ1 => ?_) (fun gJ1 wJ1 hI => ?_)
    · refine loop_intro (fun g w' => ∃ (k : Nat) (v5 : Value), (g 7 = .int .i64 ((k + 1 : Nat) : Int)) ∧ (k ≤ (Gs.placesL cs.length f).length) ∧ (g 5 = v5) ∧ (Own w.heap.size w' 3 1 v5 (vals .i64 ((Gs.placesL cs.length f).take k))) ∧ (w'.heap[b1]? = some (.cells #[.int .i64 r, .int .i64 c, .slice A cs.length cp, .int .i64 cur] 28 (0, 0))) ∧ (w'.heap[b2]? = some (.cells (Gs.fv f).toArray 40 (0, 0))) ∧ (Upd no w w')) (fun g w' => (Gs.placesL cs.length f).length + 1 - (RowKit.intOf (g 7)).toNat) ?_ (fun g2 wl2 hI => ?_)
      · exact ⟨0, _, rfl, (Nat.zero_le _), (by first | exact g5 | rfl), (Own.of_block (n := 0) h_b3 ge_b3 rfl (by decide)), h_b1, h_b2, hF⟩
      · obtain ⟨k, v5, g7, hk, g5, own5, h_b1, h_b2, hF⟩ := hI
        try rw [g7]
        try rw [g5]
        refine opv_dec (leq _ _ _ _) (fun h6 => ?_) (fun h6 => ?_)
        · refine condt ?_
          refine opv_run (fieldAt_eq (off := 0) (by kernel_rfl)) ?_
          refine opv_run (ldC (by kernel_rfl) h_b2 (by rfl)) ?_
          first | refine opv_run (add_i64 _ (by omega)) ?_ | refine opv_run (addI _ _ _ _) ?_
          refine opv_run (fieldAt_eq (off := 2) (by kernel_rfl)) ?_
          refine opv_run (ldC (by kernel_rfl) h_b1 (by rfl)) ?_
          refine opv_run (len_sl (by kernel_rfl) _ _ _) ?_
          refine opv_run (remN _ (by omega) (by omega) (by omega)) ?_
          refine buildSlice_intro (e := 3) (m := 1) (z := #[.int .i64 0]) (by kernel_rfl) (by kernel_rfl) (by rfl) (by decide) (by first | (simp [fillL, splice, repL, Value.cells, Gs.cv, Gs.fv]; done) | (simp [fillL, splice, repL, Value.cells, Gs.cv, Gs.fv]; rfl)) (fun b7 w7 e7 h_b7 _ U7 => ?_)
          have na_own5_b7 := own5.apart e7
          have ne_b1_b7 : b1 ≠ b7 := by have := lt_get h_b1; omega
          have ne_b2_b7 : b2 ≠ b7 := by have := lt_get h_b2; omega
          have ge_b7 : w.heap.size ≤ b7 := by have := hF.size; omega
          replace own5 := own5.upd0 U7
          replace h_b1 := U7.get0 h_b1
          replace h_b2 := U7.get0 h_b2
          replace hF := hF.go0 U7
          clear e7
          refine app_intro (e := 3) (size := 1) (bytes := 8) (by kernel_rfl) own5 (Rd.of_blockL h_b7) rfl (by first | (simp [Value.oneCell']; done) | (intro u hu; simp only [List.mem_singleton] at hu; subst hu; rfl) | (simp; intros; subst_vars; rfl)) (by simp only [vals_length, List.length_take, List.length_cons, List.length_nil, List.length_append, List.length_map, List.length_range]; omega) (by have := hF.size; omega) (fun v8 w8 N8 U8 => ?_)
          have own5_o := own5
          replace own5 := N8
          replace h_b1 := U8.get h_b1 (fun h => by first | (have := Own.ge own5_o h; omega) | exact Own.ne_blk own5_o h_b1 (by decide) _ h rfl | exact Own.not_loop own5_o h_b1 (by assumption) _ h rfl | exact Own.not_def own5_o h_b1 _ h rfl | simp_all)
          replace h_b2 := U8.get h_b2 (fun h => by first | (have := Own.ge own5_o h; omega) | exact Own.ne_blk own5_o h_b2 (by decide) _ h rfl | exact Own.not_loop own5_o h_b2 (by assumption) _ h rfl | exact Own.not_def own5_o h_b2 _ h rfl | simp_all)
          replace h_b7 := U8.get h_b7 (fun h => na_own5_b7 _ h rfl)
          replace hF := hF.go U8 (fun i h hs => by first | exact hs | exact .inl hs | exact .inr hs | (have := (Own.ge own5_o hs).1; omega))
          clear own5_o
          first | refine opv_run (add_i64 _ (by omega)) ?_ | refine opv_run (addI _ _ _ _) ?_
          exact ⟨⟨k + 1, _, rfl, (by omega), (by first | exact g5 | rfl), (by rw [← Gs.take_step (Gs.places_at (by omega))]; exact own_snoc own5), h_b1, h_b2, hF⟩, cnt_lt (by first | exact g7 | rfl) rfl (by omega)⟩
        · refine condf ?_
          refine hJ1 _ _ ?_
          exact ⟨_, (by first | exact g5 | rfl), (by rw [List.take_of_length_le (by omega)] at own5; exact own5), hF⟩
    · obtain ⟨v5, g5, own5, hF⟩ := hI
      try rw [g5]
      first | (obtain ⟨A3, c3, rfl, rd3, lc3⟩ := own5.rd1c; exact ⟨_, rfl, A3, c3, rfl, rd3, .inr fun k hk => (own5.geb k hk).1, lc3, hF⟩) | (rw [Gs.places_no (by omega)]; exact ⟨_, rfl, _, _, rfl, Rd.nil _ _, .inl rfl, Nat.zero_le _, hF⟩)
  · replace rd1 := rd1.upd0 U4
    replace h_b1 := U4.get0 h_b1
    replace h_b2 := U4.get0 h_b2
    replace h_b3 := U4.get0 h_b3
    replace hF := hF.go0 U4
    try simp only [decide_eq_true_eq, decide_eq_false_iff_not] at h4
    refine opv_run (notF) ?_
    refine condt ?_
    first | (obtain ⟨A3, c3, rfl, rd3, lc3⟩ := own5.rd1c; exact ⟨_, rfl, A3, c3, rfl, rd3, .inr fun k hk => (own5.geb k hk).1, lc3, hF⟩) | (rw [Gs.places_no (by omega)]; exact ⟨_, rfl, _, _, rfl, Rd.nil _ _, .inl rfl, Nat.zero_le _, hF⟩)

/-- greenscreen/greenscreenref15.Of -/
theorem c_ref15_Of {r c cur : Int} {A : Option Addr} {n cp : Nat} {cs : List Gs.Cell} {w : World} (rd1 : Rd w A (rows Gs.cv cs)) (hn : n = cs.length) (hb : n ≤ 4096) {i : Int} (hcw : Gs.Cws cs) :
    Calls Try.prog 23 #[.agg #[.int .i64 r, .int .i64 c, .slice A n cp, .int .i64 cur], .int .i64 i] w fun e w' => e = .returned (.tuple #[.agg (Gs.fv (Gs.ofM cs i)).toArray, .bool (Gs.ofB cs i)]) ∧ Upd no w w' := by
  refine F23.calls ?_
  unfold F23
  subst hn
  have lt_rd1 := Rd.lt rd1
  have hF : Upd no w w := Fr.refl _ _ _
  refine box_intro (by rfl) (fun b1 w1 e1 h_b1 _ U1 => ?_)
  have na_rd1_b1 := rd1.apart e1
  have ge_b1 : w.heap.size ≤ b1 := by have := hF.size; omega
  replace rd1 := rd1.upd0 U1
  replace hF := hF.go0 U1
  clear e1
  refine alloc_intro (cs := (Gs.fv Gs.zf).toArray) (by kernel_rfl) (fun b2 w2 e2 h_b2 _ U2 => ?_)
  have na_rd1_b2 := rd1.apart e2
  have ne_b1_b2 : b1 ≠ b2 := by have := lt_get h_b1; omega
  have ge_b2 : w.heap.size ≤ b2 := by have := hF.size; omega
  replace rd1 := rd1.upd0 U2
  replace h_b1 := U2.get0 h_b1
  replace hF := hF.go0 U2
  clear e2
  refine opv_run (ldA (n := 4) (by kernel_rfl) h_b1 (by first | exact Nat.le_of_ble_eq_true rfl | (simp; done) | omega) (by rfl)) ?_
  refine callF_ex (c_ref15_All rd1 rfl hb hcw) (fun v3 w3 D3 => ?_)
  obtain ⟨A11, c11, rfl, rd11, gA11, U3⟩ := D3
  have na_rd11_b1 := gA11.ne (lt_get h_b1)
  have na_rd11_b2 := gA11.ne (lt_get h_b2)
  replace rd1 := rd1.upd0 U3
  replace h_b1 := U3.get0 h_b1
  replace h_b2 := U3.get0 h_b2
  replace hF := hF.go0 U3
  refine join_cut (fun g w' => (Gs.noneO cs i (Gs.allM cs).length) ∧ (w'.heap[b2]? = some (.cells (Gs.fv Gs.zf).toArray 40 (0, 0))) ∧ (Upd no w w')) (fun J1 hJ1 => ?_) (fun gJ1 wJ1 hI => ?_)
  · refine loop_intro (fun g w' => ∃ (k : Nat), (g 7 = .int .i64 (k : Int)) ∧ (k ≤ (Gs.allM cs).length) ∧ (Gs.noneO cs i k) ∧ (Rd w' A11 (rows Gs.fv (Gs.allM cs))) ∧ (w'.heap[b1]? = some (.cells #[.int .i64 r, .int .i64 c, .slice A cs.length cp, .int .i64 cur] 28 (0, 0))) ∧ (Rd w' A (rows Gs.cv cs)) ∧ (w'.heap[b2]? = some (.cells (Gs.fv Gs.zf).toArray 40 (0, 0))) ∧ (Upd no w w')) (fun g w' => (Gs.allM cs).length - (RowKit.intOf (g 7)).toNat) ?_ (fun g2 wl2 hI => ?_)
    · exact ⟨0, (by first | exact g7 | rfl), Nat.zero_le _, (Gs.noneO_0 _ _), rd11, h_b1, rd1, h_b2, hF⟩
    · obtain ⟨k, g7, hk, hno, rd11, h_b1, rd1, h_b2, hF⟩ := hI
      try rw [g7]
      have hsl := Gs.starts_len_le cs
      have hal := Gs.allM_len cs
      refine opv_run (len_sl (by kernel_rfl) _ _ _) ?_
      refine opv_dec (lss _ _ _ _) (fun h4 => ?_) (fun h4 => ?_)
      · refine condt ?_
        refine join_cut (fun g w' => (Gs.noneO cs i (k + 1)) ∧ (Rd w' A11 (rows Gs.fv (Gs.allM cs))) ∧ (w'.heap[b1]? = some (.cells #[.int .i64 r, .int .i64 c, .slice A cs.length cp, .int .i64 cur] 28 (0, 0))) ∧ (Rd w' A (rows Gs.cv cs)) ∧ (w'.heap[b2]? = some (.cells (Gs.fv Gs.zf).toArray 40 (0, 0))) ∧ (Upd no w w')) (fun J3 hJ3 => ?_) (fun gJ3 wJ3 hI => ?_)
        · refine idx_rowF (off := 0) Gs.encF (fun x => .int .i64 x.s) (fun _ => rfl) (by decide) (by kernel_rfl) (by kernel_rfl) (by kernel_rfl) rd11 (by first | rfl | assumption | omega) (by omega) (by omega) (fun x5 hx5 => ?_)
          try simp only [Int.toNat_natCast] at hx5
          refine opv_dec (eqI _ _ _ _ _) (fun h6 => ?_) (fun h6 => ?_)
          · refine condt ?_
            refine idx_rows Gs.encF (by kernel_rfl) (by kernel_rfl) rd11 (by first | rfl | assumption | omega) (by omega) (by omega) (fun x7 hx7 => ?_)
            try simp only [Int.toNat_natCast] at hx7
            refine store_intro (n := 3) (cs' := (Gs.fv x7).toArray) (by kernel_rfl) (by rfl) (by first | rfl | (simp [Value.cells, Value.oneCell', Gs.cv, Gs.fv]; done)) h_b2 (by first | exact Nat.le_of_ble_eq_true rfl | (simp; done) | omega) (by rfl) (fun w8 N8 _ U8 => ?_)
            replace rd11 := rd11.upd1 U8 na_rd11_b2
            replace rd1 := rd1.upd1 U8 na_rd1_b2
            replace h_b1 := U8.get1 h_b1 ne_b1_b2
            replace h_b2 := N8
            replace hF := hF.go1 U8 ge_b2
            refine ldv_run (ldA (n := 3) (by kernel_rfl) h_b2 (by first | exact Nat.le_of_ble_eq_true rfl | simp | omega) (by rfl)) ?_
            first | (rw [(Gs.of_hit1 hx7 ((congrArg Gs.Fld.s (Option.some.inj (hx7.symm.trans hx5))).trans (by assumption))).1, (Gs.of_hit1 hx7 ((congrArg Gs.Fld.s (Option.some.inj (hx7.symm.trans hx5))).trans (by assumption))).2]; exact ⟨rfl, hF⟩) | (rw [(Gs.of_hit2 hx? hx? (by assumption)).1, (Gs.of_hit2 hx? hx? (by assumption)).2, Option.some.inj (hx?.symm.trans hx?)]; exact ⟨rfl, hF⟩) | (rw [(Gs.of_none hno).1, (Gs.of_none hno).2]; exact ⟨rfl, hF⟩)
          · refine condf ?_
            refine drawn_S (S := no) (fun w10 U10 => ?_)
            replace rd11 := rd11.upd0 U10
            replace rd1 := rd1.upd0 U10
            replace h_b1 := U10.get0 h_b1
            replace h_b2 := U10.get0 h_b2
            replace hF := hF.go0 U10
            refine qop_run (fun w' hw' => by have h_b1 := hw'.get0 h_b1; exact (ldA (n := 4) (by kernel_rfl) h_b1 (by first | exact Nat.le_of_ble_eq_true rfl | (simp; done) | omega) (by rfl))) ?_
            refine qidx Gs.encF (by kernel_rfl) (by kernel_rfl) (fun w' hw' => rd11.upd0 hw') (Fr.refl _ _ _) (by first | rfl | assumption | omega) (by omega) (by omega) (fun x11 hx11 => ?_)
            try simp only [Int.toNat_natCast] at hx11
            refine ext_intro (fun w12 U12 => ?_)
            replace rd11 := rd11.upd0 U12
            replace rd1 := rd1.upd0 U12
            replace h_b1 := U12.get0 h_b1
            replace h_b2 := U12.get0 h_b2
            replace hF := hF.go0 U12
            refine lop_i ?_
            refine callF_ex (c_ref15_Places rd1 rfl hb (f := x11)) (fun v13 w13 D13 => ?_)
            obtain ⟨A34, c34, rfl, rd34, gA34, lc34, U13⟩ := D13
            have na_rd34_b1 := gA34.ne (lt_get h_b1)
            have na_rd34_b2 := gA34.ne (lt_get h_b2)
            replace rd11 := rd11.upd0 U13
            replace rd1 := rd1.upd0 U13
            replace h_b1 := U13.get0 h_b1
            replace h_b2 := U13.get0 h_b2
            replace hF := hF.go0 U13
            refine ⟨U13, ?_⟩
            refine ext_intro (fun w14 U14 => ?_)
            replace rd11 := rd11.upd0 U14
            replace rd1 := rd1.upd0 U14
            replace rd34 := rd34.upd0 U14
            replace h_b1 := U14.get0 h_b1
            replace h_b2 := U14.get0 h_b2
            replace hF := hF.go0 U14
            refine loop_intro (fun g w' => ∃ (k2 : Nat), (g 9 = .int .i64 (k2 : Int)) ∧ (k2 ≤ (Gs.placesL cs.length x11).length) ∧ (Gs.noneP cs x11 i k2) ∧ (Rd w' A11 (rows Gs.fv (Gs.allM cs))) ∧ (w'.heap[b1]? = some (.cells #[.int .i64 r, .int .i64 c, .slice A cs.length cp, .int .i64 cur] 28 (0, 0))) ∧ (Rd w' A (rows Gs.cv cs)) ∧ (w'.heap[b2]? = some (.cells (Gs.fv Gs.zf).toArray 40 (0, 0))) ∧ (Rd w' A34 (vals .i64 (Gs.placesL cs.length x11))) ∧ (Upd no w w')) (fun g w' => (Gs.placesL cs.length x11).length - (RowKit.intOf (g 9)).toNat) ?_ (fun g4 wl4 hI => ?_)
            · exact ⟨0, rfl, (Nat.zero_le _), (Gs.noneP_0 _ _ _), rd11, h_b1, rd1, h_b2, rd34, hF⟩
            · obtain ⟨k2, g9, hk2, hnp, rd11, h_b1, rd1, h_b2, rd34, hF⟩ := hI
              try rw [g9]
              have hple := Gs.places_le cs.length x11
              refine opv_run (len_sl (by kernel_rfl) _ _ _) ?_
              refine opv_dec (lss _ _ _ _) (fun h15 => ?_) (fun h15 => ?_)
              · refine condt ?_
                refine idx_int (by kernel_rfl) (by kernel_rfl) rd34 (by first | rfl | assumption | omega | (simp; done) | (simp [vals_length, *]; done) | (simp [vals_length] at *; omega)) (by omega) (by omega) (fun x16 hx16 => ?_)
                try simp only [Int.toNat_natCast] at hx16
                refine opv_dec (eqI _ _ _ _ _) (fun h17 => ?_) (fun h17 => ?_)
                · refine condt ?_
                  refine idx_rows Gs.encF (by kernel_rfl) (by kernel_rfl) rd11 (by first | rfl | assumption | omega) (by omega) (by omega) (fun x18 hx18 => ?_)
                  try simp only [Int.toNat_natCast] at hx18
                  refine store_intro (n := 3) (cs' := (Gs.fv x18).toArray) (by kernel_rfl) (by rfl) (by first | rfl | (simp [Value.cells, Value.oneCell', Gs.cv, Gs.fv]; done)) h_b2 (by first | exact Nat.le_of_ble_eq_true rfl | (simp; done) | omega) (by rfl) (fun w19 N19 _ U19 => ?_)
                  replace rd11 := rd11.upd1 U19 na_rd11_b2
                  replace rd1 := rd1.upd1 U19 na_rd1_b2
                  replace rd34 := rd34.upd1 U19 na_rd34_b2
                  replace h_b1 := U19.get1 h_b1 ne_b1_b2
                  replace h_b2 := N19
                  replace hF := hF.go1 U19 ge_b2
                  refine ldv_run (ldA (n := 3) (by kernel_rfl) h_b2 (by first | exact Nat.le_of_ble_eq_true rfl | simp | omega) (by rfl)) ?_
                  first | (rw [(Gs.of_hit1 hx7 ((congrArg Gs.Fld.s (Option.some.inj (hx7.symm.trans hx5))).trans (by assumption))).1, (Gs.of_hit1 hx7 ((congrArg Gs.Fld.s (Option.some.inj (hx7.symm.trans hx5))).trans (by assumption))).2]; exact ⟨rfl, hF⟩) | (rw [(Gs.of_hit2 hx11 hx16 (by assumption)).1, (Gs.of_hit2 hx11 hx16 (by assumption)).2, Option.some.inj (hx11.symm.trans hx18)]; exact ⟨rfl, hF⟩) | (rw [(Gs.of_none hno).1, (Gs.of_none hno).2]; exact ⟨rfl, hF⟩)
                · refine condf ?_
                  first | refine opv_run (add_i64 _ (by omega)) ?_ | refine opv_run (addI _ _ _ _) ?_
                  exact ⟨⟨k2 + 1, rfl, (by omega), (Gs.noneP_step hnp hx16 (by assumption)), rd11, h_b1, rd1, h_b2, rd34, hF⟩, cnt_lt (by first | exact g9 | rfl) rfl (by omega)⟩
              · refine condf ?_
                refine hJ3 _ _ ?_
                exact ⟨(Gs.noneO_step hno hx5 hx11 (by assumption) (by rw [show (Gs.placesL cs.length x11).length = k2 by omega]; exact hnp)), rd11, h_b1, rd1, h_b2, hF⟩
        · obtain ⟨hno, rd11, h_b1, rd1, h_b2, hF⟩ := hI
          first | refine opv_run (add_i64 _ (by omega)) ?_ | refine opv_run (addI _ _ _ _) ?_
          exact ⟨⟨k + 1, (by first | exact g7 | rfl), by omega, hno, rd11, h_b1, rd1, h_b2, hF⟩, cnt_lt (by first | rfl | exact g7) rfl (by omega)⟩
      · refine condf ?_
        refine hJ1 _ _ ?_
        exact ⟨(by rw [show (Gs.allM cs).length = k by omega]; exact hno), h_b2, hF⟩
  · obtain ⟨hno, h_b2, hF⟩ := hI
    refine opv_run (build_eq (l := [(0, 1), (1, 1), (2, 1)]) (z := #[.int .i64 0, .int .i64 0, .int .u8 0]) (cs := (Gs.fv Gs.zf)) (by kernel_rfl) (by rfl)) ?_
    refine store_intro (n := 3) (cs' := (Gs.fv Gs.zf).toArray) (by kernel_rfl) (by rfl) (by first | rfl | (simp [Value.cells, Value.oneCell', Gs.cv, Gs.fv]; done)) h_b2 (by first | exact Nat.le_of_ble_eq_true rfl | (simp; done) | omega) (by rfl) (fun w21 N21 _ U21 => ?_)
    replace h_b2 := N21
    replace hF := hF.go1 U21 ge_b2
    refine ldv_run (ldA (n := 3) (by kernel_rfl) h_b2 (by first | exact Nat.le_of_ble_eq_true rfl | simp | omega) (by rfl)) ?_
    first | (rw [(Gs.of_hit1 hx7 ((congrArg Gs.Fld.s (Option.some.inj (hx7.symm.trans hx5))).trans (by assumption))).1, (Gs.of_hit1 hx7 ((congrArg Gs.Fld.s (Option.some.inj (hx7.symm.trans hx5))).trans (by assumption))).2]; exact ⟨rfl, hF⟩) | (rw [(Gs.of_hit2 hx11 hx16 (by assumption)).1, (Gs.of_hit2 hx11 hx16 (by assumption)).2, Option.some.inj (hx11.symm.trans hx18)]; exact ⟨rfl, hF⟩) | (rw [(Gs.of_none hno).1, (Gs.of_none hno).2]; exact ⟨rfl, hF⟩)

/-- greenscreen/greenscreenref15.After -/
theorem c_ref15_After {r c cur : Int} {A : Option Addr} {n cp : Nat} {cs : List Gs.Cell} {w : World} (rd1 : Rd w A (rows Gs.cv cs)) (hn : n = cs.length) (hb : n ≤ 4096) {i : Int} :
    Calls Try.prog 26 #[.agg #[.int .i64 r, .int .i64 c, .slice A n cp, .int .i64 cur], .int .i64 i] w fun e w' => e = .returned (.int .i64 (Gs.aftM cs i)) ∧ Upd no w w' := by
  refine F26.calls ?_
  unfold F26
  subst hn
  have lt_rd1 := Rd.lt rd1
  have hF : Upd no w w := Fr.refl _ _ _
  refine box_intro (by rfl) (fun b1 w1 e1 h_b1 _ U1 => ?_)
  have na_rd1_b1 := rd1.apart e1
  have ge_b1 : w.heap.size ≤ b1 := by have := hF.size; omega
  replace rd1 := rd1.upd0 U1
  replace hF := hF.go0 U1
  clear e1
  refine opv_run (ldA (n := 4) (by kernel_rfl) h_b1 (by first | exact Nat.le_of_ble_eq_true rfl | (simp; done) | omega) (by rfl)) ?_
  refine callF_ex (c_ref15_Starts rd1 rfl hb) (fun v2 w2 D2 => ?_)
  obtain ⟨A8, c8, rfl, rd8, gA8, U2⟩ := D2
  have na_rd8_b1 := gA8.ne (lt_get h_b1)
  replace rd1 := rd1.upd0 U2
  replace h_b1 := U2.get0 h_b1
  replace hF := hF.go0 U2
  refine opv_run (len_sl (by kernel_rfl) _ _ _) ?_
  refine opv_dec (eqI _ _ _ _ _) (fun h3 => ?_) (fun h3 => ?_)
  · refine gdtf ?_
    refine gdtf ?_
    refine gdtf ?_
    refine gdtf ?_
    refine pickt ?_
    refine condt ?_
    first | (rw [Gs.aft_no (by omega)]; exact ⟨rfl, hF⟩) | (rw [Gs.aft_out (by omega)]; exact ⟨rfl, hF⟩) | (rw [Gs.aft_first (by omega) hno hx? (by first | assumption | (rw [Option.some.inj (hx?.symm.trans hx?)]; assumption))]; exact ⟨rfl, hF⟩) | (rw [Gs.aft_wrap (by omega) hno hx?]; exact ⟨rfl, hF⟩)
  · refine gdff ?_
    refine opv_run (ldA (n := 4) (by kernel_rfl) h_b1 (by first | exact Nat.le_of_ble_eq_true rfl | (simp; done) | omega) (by rfl)) ?_
    refine gdff ?_
    refine gdff ?_
    refine callF_bool (c_greenscreenref14_Has (i := i) (n := cs.length)) (fun w5 U5 h5 => ?_) (fun w5 U5 h5 => ?_)
    · replace rd1 := rd1.upd0 U5
      replace rd8 := rd8.upd0 U5
      replace h_b1 := U5.get0 h_b1
      replace hF := hF.go0 U5
      try simp only [decide_eq_true_eq, decide_eq_false_iff_not] at h5
      refine gdff ?_
      refine opv_run (notT) ?_
      refine pickf ?_
      refine condf ?_
      refine join_cut (fun g w' => (Gs.noneA cs i (Gs.startsL cs).length) ∧ (Rd w' A8 (vals .i64 (Gs.startsL cs))) ∧ (Upd no w w')) (fun J1 hJ1 => ?_) (fun gJ1 wJ1 hI => ?_)
      · refine loop_intro (fun g w' => ∃ (k : Nat), (g 6 = .int .i64 (k : Int)) ∧ (k ≤ (Gs.startsL cs).length) ∧ (Gs.noneA cs i k) ∧ (Rd w' A8 (vals .i64 (Gs.startsL cs))) ∧ (Upd no w w')) (fun g w' => (Gs.startsL cs).length - (RowKit.intOf (g 6)).toNat) ?_ (fun g2 wl2 hI => ?_)
        · exact ⟨0, (by first | exact g6 | rfl), Nat.zero_le _, (Gs.noneA_0 _ _), rd8, hF⟩
        · obtain ⟨k, g6, hk, hno, rd8, hF⟩ := hI
          try rw [g6]
          have hsl := Gs.starts_len_le cs
          have hstl := Gs.startsL_len cs
          refine opv_run (len_sl (by kernel_rfl) _ _ _) ?_
          refine opv_dec (lss _ _ _ _) (fun h6 => ?_) (fun h6 => ?_)
          · refine condt ?_
            refine idx_int (by kernel_rfl) (by kernel_rfl) rd8 (by first | rfl | assumption | omega | (simp; done) | (simp [vals_length, *]; done) | (simp [vals_length] at *; omega)) (by omega) (by omega) (fun x7 hx7 => ?_)
            try simp only [Int.toNat_natCast] at hx7
            refine opv_dec (gtr _ _ _ _) (fun h8 => ?_) (fun h8 => ?_)
            · refine condt ?_
              refine idx_int (by kernel_rfl) (by kernel_rfl) rd8 (by first | rfl | assumption | omega | (simp; done) | (simp [vals_length, *]; done) | (simp [vals_length] at *; omega)) (by omega) (by omega) (fun x9 hx9 => ?_)
              try simp only [Int.toNat_natCast] at hx9
              first | (rw [Gs.aft_no (by omega)]; exact ⟨rfl, hF⟩) | (rw [Gs.aft_out (by omega)]; exact ⟨rfl, hF⟩) | (rw [Gs.aft_first (by omega) hno hx9 (by first | assumption | (rw [Option.some.inj (hx9.symm.trans hx7)]; assumption))]; exact ⟨rfl, hF⟩) | (rw [Gs.aft_wrap (by omega) hno hx?]; exact ⟨rfl, hF⟩)
            · refine condf ?_
              first | refine opv_run (add_i64 _ (by omega)) ?_ | refine opv_run (addI _ _ _ _) ?_
              exact ⟨⟨k + 1, (by first | exact g6 | rfl), by omega, (Gs.noneA_step hno hx7 (by assumption)), rd8, hF⟩, cnt_lt (by first | rfl | exact g6) rfl (by omega)⟩
          · refine condf ?_
            refine hJ1 _ _ ?_
            exact ⟨(by rw [show (Gs.startsL cs).length = k by omega]; exact hno), rd8, hF⟩
      · obtain ⟨hno, rd8, hF⟩ := hI
        refine idx_int (by kernel_rfl) (by kernel_rfl) rd8 (by first | rfl | assumption | omega | (simp; done) | (simp [vals_length, *]; done) | (simp [vals_length] at *; omega)) (by omega) (by omega) (fun x11 hx11 => ?_)
        try simp only [Int.toNat_natCast] at hx11
        first | (rw [Gs.aft_no (by omega)]; exact ⟨rfl, hF⟩) | (rw [Gs.aft_out (by omega)]; exact ⟨rfl, hF⟩) | (rw [Gs.aft_first (by omega) hno hx9 (by first | assumption | (rw [Option.some.inj (hx9.symm.trans hx7)]; assumption))]; exact ⟨rfl, hF⟩) | (rw [Gs.aft_wrap (by omega) hno hx11]; exact ⟨rfl, hF⟩)
    · replace rd1 := rd1.upd0 U5
      replace rd8 := rd8.upd0 U5
      replace h_b1 := U5.get0 h_b1
      replace hF := hF.go0 U5
      try simp only [decide_eq_true_eq, decide_eq_false_iff_not] at h5
      refine gdff ?_
      refine opv_run (notF) ?_
      refine pickf ?_
      refine condt ?_
      first | (rw [Gs.aft_no (by omega)]; exact ⟨rfl, hF⟩) | (rw [Gs.aft_out (by omega)]; exact ⟨rfl, hF⟩) | (rw [Gs.aft_first (by omega) hno hx9 (by first | assumption | (rw [Option.some.inj (hx9.symm.trans hx7)]; assumption))]; exact ⟨rfl, hF⟩) | (rw [Gs.aft_wrap (by omega) hno hx11]; exact ⟨rfl, hF⟩)

/-- greenscreen/greenscreenref15.Open -/
theorem c_ref15_Open {r c cur : Int} {A : Option Addr} {n cp : Nat} {cs : List Gs.Cell} {w : World} (rd1 : Rd w A (rows Gs.cv cs)) (hn : n = cs.length) (hb : n ≤ 4096) {i : Int} (hcw : Gs.Cws cs) :
    Calls Try.prog 28 #[.agg #[.int .i64 r, .int .i64 c, .slice A n cp, .int .i64 cur], .int .i64 i] w fun e w' => e = .returned (.bool (Gs.openM cs i)) ∧ Upd no w w' := by
  refine F28.calls ?_
  unfold F28
  subst hn
  have lt_rd1 := Rd.lt rd1
  have hF : Upd no w w := Fr.refl _ _ _
  refine box_intro (by rfl) (fun b1 w1 e1 h_b1 _ U1 => ?_)
  have na_rd1_b1 := rd1.apart e1
  have ge_b1 : w.heap.size ≤ b1 := by have := hF.size; omega
  replace rd1 := rd1.upd0 U1
  replace hF := hF.go0 U1
  clear e1
  refine opv_run (ldA (n := 4) (by kernel_rfl) h_b1 (by first | exact Nat.le_of_ble_eq_true rfl | (simp; done) | omega) (by rfl)) ?_
  refine callF_bool (c_greenscreenref14_Has (i := i) (n := cs.length)) (fun w2 U2 h2 => ?_) (fun w2 U2 h2 => ?_)
  · replace rd1 := rd1.upd0 U2
    replace h_b1 := U2.get0 h_b1
    replace hF := hF.go0 U2
    try simp only [decide_eq_true_eq, decide_eq_false_iff_not] at h2
    refine opv_run (notT) ?_
    refine condf ?_
    refine opv_run (ldA (n := 4) (by kernel_rfl) h_b1 (by first | exact Nat.le_of_ble_eq_true rfl | (simp; done) | omega) (by rfl)) ?_
    refine callF_val (c_ref15_Of rd1 rfl hb (i := i) hcw) (fun w3 U3 => ?_)
    replace rd1 := rd1.upd0 U3
    replace h_b1 := U3.get0 h_b1
    replace hF := hF.go0 U3
    cases hob : Gs.ofB cs i
    · refine opv_run (ext_t (by rfl)) ?_
      refine opv_run (ext_t (by rfl)) ?_
      refine alloc_intro (cs := (Gs.fv Gs.zf).toArray) (by kernel_rfl) (fun b4 w4 e4 h_b4 _ U4 => ?_)
      have na_rd1_b4 := rd1.apart e4
      have ne_b1_b4 : b1 ≠ b4 := by have := lt_get h_b1; omega
      have ge_b4 : w.heap.size ≤ b4 := by have := hF.size; omega
      replace rd1 := rd1.upd0 U4
      replace h_b1 := U4.get0 h_b1
      replace hF := hF.go0 U4
      clear e4
      refine store_intro (n := 3) (cs' := (Gs.fv (Gs.ofM cs i)).toArray) (by kernel_rfl) (by rfl) (by first | rfl | (simp [Value.cells, Value.oneCell', Gs.cv, Gs.fv]; done)) h_b4 (by first | exact Nat.le_of_ble_eq_true rfl | (simp; done) | omega) (by rfl) (fun w5 N5 _ U5 => ?_)
      replace rd1 := rd1.upd1 U5 na_rd1_b4
      replace h_b1 := U5.get1 h_b1 ne_b1_b4
      replace h_b4 := N5
      replace hF := hF.go1 U5 ge_b4
      refine opv_run (notF) ?_
      refine gdtf ?_
      refine gdtf ?_
      refine gdtf ?_
      refine gdtf ?_
      refine gdtf ?_
      refine gdun ?_
      refine gdun ?_
      refine gdun ?_
      refine gdun ?_
      refine gdtf ?_
      refine pickt ?_
      first | (rw [Gs.open_out (by omega)]; exact ⟨rfl, hF⟩) | (rw [Gs.open_T (by omega) hob]; exact ⟨rfl, hF⟩) | (rw [Gs.open_self hob (by assumption)]; exact ⟨rfl, hF⟩) | (rw [Gs.open_yes hob (by assumption)]; exact ⟨rfl, hF⟩)
    · refine opv_run (ext_t (by rfl)) ?_
      refine opv_run (ext_t (by rfl)) ?_
      refine alloc_intro (cs := (Gs.fv Gs.zf).toArray) (by kernel_rfl) (fun b7 w7 e7 h_b7 _ U7 => ?_)
      have na_rd1_b7 := rd1.apart e7
      have ne_b1_b7 : b1 ≠ b7 := by have := lt_get h_b1; omega
      have ge_b7 : w.heap.size ≤ b7 := by have := hF.size; omega
      replace rd1 := rd1.upd0 U7
      replace h_b1 := U7.get0 h_b1
      replace hF := hF.go0 U7
      clear e7
      refine store_intro (n := 3) (cs' := (Gs.fv (Gs.ofM cs i)).toArray) (by kernel_rfl) (by rfl) (by first | rfl | (simp [Value.cells, Value.oneCell', Gs.cv, Gs.fv]; done)) h_b7 (by first | exact Nat.le_of_ble_eq_true rfl | (simp; done) | omega) (by rfl) (fun w8 N8 _ U8 => ?_)
      replace rd1 := rd1.upd1 U8 na_rd1_b7
      replace h_b1 := U8.get1 h_b1 ne_b1_b7
      replace h_b7 := N8
      replace hF := hF.go1 U8 ge_b7
      refine opv_run (notT) ?_
      refine gdff ?_
      refine opv_run (fieldAt_eq (off := 0) (by kernel_rfl)) ?_
      refine gdff ?_
      refine opv_run (ldC (by kernel_rfl) h_b7 (by rfl)) ?_
      refine gdff ?_
      refine gdff ?_
      refine opv_dec (neI _ _ _ _ _) (fun h9 => ?_) (fun h9 => ?_)
      · refine gdff ?_
        refine gdtt ?_
        refine opv_run (fieldAt_eq (off := 2) (by kernel_rfl)) ?_
        refine gdtt ?_
        refine opv_run (ldC (by kernel_rfl) h_b7 (by rfl)) ?_
        refine gdtt ?_
        refine callF_val (c_ref11_Bit (Gs.of_a hcw i)) (fun w10 U10 => ?_)
        replace rd1 := rd1.upd0 U10
        replace h_b1 := U10.get0 h_b1
        replace h_b7 := U10.get0 h_b7
        replace hF := hF.go0 U10
        refine gdtt ?_
        refine opv_run (notB _) ?_
        refine gdff ?_
        refine pickt ?_
        refine pickf ?_
        first | (rw [Gs.open_out (by omega)]; exact ⟨rfl, hF⟩) | (rw [Gs.open_T (by omega) hob]; exact ⟨rfl, hF⟩) | (rw [Gs.open_self hob (by assumption)]; exact ⟨rfl, hF⟩) | (rw [Gs.open_yes hob (by assumption)]; exact ⟨rfl, hF⟩)
      · refine gdff ?_
        refine gdft ?_
        refine gdft ?_
        refine gdft ?_
        refine gdft ?_
        refine gdff ?_
        refine pickf ?_
        refine pickf ?_
        first | (rw [Gs.open_out (by omega)]; exact ⟨rfl, hF⟩) | (rw [Gs.open_T (by omega) hob]; exact ⟨rfl, hF⟩) | (rw [Gs.open_self hob (by assumption)]; exact ⟨rfl, hF⟩) | (rw [Gs.open_yes hob (by assumption)]; exact ⟨rfl, hF⟩)
  · replace rd1 := rd1.upd0 U2
    replace h_b1 := U2.get0 h_b1
    replace hF := hF.go0 U2
    try simp only [decide_eq_true_eq, decide_eq_false_iff_not] at h2
    refine opv_run (notF) ?_
    refine condt ?_
    first | (rw [Gs.open_out (by omega)]; exact ⟨rfl, hF⟩) | (rw [Gs.open_T (by omega) hob]; exact ⟨rfl, hF⟩) | (rw [Gs.open_self hob (by assumption)]; exact ⟨rfl, hF⟩) | (rw [Gs.open_yes hob (by assumption)]; exact ⟨rfl, hF⟩)

/-- greenscreen/greenscreenref15.Home -/
theorem c_ref15_Home {r c cur : Int} {A : Option Addr} {n cp : Nat} {cs : List Gs.Cell} {w : World} (rd1 : Rd w A (rows Gs.cv cs)) (hn : n = cs.length) (hb : n ≤ 4096) (hcw : Gs.Cws cs) :
    Calls Try.prog 14 #[.agg #[.int .i64 r, .int .i64 c, .slice A n cp, .int .i64 cur]] w fun e w' => e = .returned (.int .i64 (Gs.homeM cs)) ∧ Upd no w w' := by
  refine F14.calls ?_
  unfold F14
  subst hn
  have lt_rd1 := Rd.lt rd1
  have hF : Upd no w w := Fr.refl _ _ _
  refine box_intro (by rfl) (fun b1 w1 e1 h_b1 _ U1 => ?_)
  have na_rd1_b1 := rd1.apart e1
  have ge_b1 : w.heap.size ≤ b1 := by have := hF.size; omega
  replace rd1 := rd1.upd0 U1
  replace hF := hF.go0 U1
  clear e1
  refine opv_run (ldA (n := 4) (by kernel_rfl) h_b1 (by first | exact Nat.le_of_ble_eq_true rfl | (simp; done) | omega) (by rfl)) ?_
  refine callF_ex (c_ref15_All rd1 rfl hb hcw) (fun v2 w2 D2 => ?_)
  obtain ⟨A6, c6, rfl, rd6, gA6, U2⟩ := D2
  have na_rd6_b1 := gA6.ne (lt_get h_b1)
  replace rd1 := rd1.upd0 U2
  replace h_b1 := U2.get0 h_b1
  replace hF := hF.go0 U2
  refine join_cut (fun g w' => (Gs.noneH cs (Gs.startsN cs).length) ∧ (Upd no w w')) (fun J1 hJ1 => ?_) (fun gJ1 wJ1 hI => ?_)
  · refine loop_intro (fun g w' => ∃ (k : Nat), (g 4 = .int .i64 (k : Int)) ∧ (k ≤ (Gs.allM cs).length) ∧ (Gs.noneH cs k) ∧ (Rd w' A6 (rows Gs.fv (Gs.allM cs))) ∧ (w'.heap[b1]? = some (.cells #[.int .i64 r, .int .i64 c, .slice A cs.length cp, .int .i64 cur] 28 (0, 0))) ∧ (Upd no w w')) (fun g w' => (Gs.allM cs).length - (RowKit.intOf (g 4)).toNat) ?_ (fun g2 wl2 hI => ?_)
    · exact ⟨0, (by first | exact g4 | rfl), Nat.zero_le _, (Gs.noneH_0 _), rd6, h_b1, hF⟩
    · obtain ⟨k, g4, hk, hno, rd6, h_b1, hF⟩ := hI
      try rw [g4]
      have hsl := Gs.starts_len_le cs
      have hal := Gs.allM_len cs
      refine opv_run (len_sl (by kernel_rfl) _ _ _) ?_
      refine opv_dec (lss _ _ _ _) (fun h3 => ?_) (fun h3 => ?_)
      · refine condt ?_
        refine idx_rowF (off := 1) Gs.encF (fun x => .int .i64 x.l) (fun _ => rfl) (by decide) (by kernel_rfl) (by kernel_rfl) (by kernel_rfl) rd6 (by first | rfl | assumption | omega) (by omega) (by omega) (fun x4 hx4 => ?_)
        try simp only [Int.toNat_natCast] at hx4
        refine opv_dec (gtr _ _ _ _) (fun h5 => ?_) (fun h5 => ?_)
        · refine gdtt ?_
          refine gdtt ?_
          refine gdtt ?_
          refine idx_rowF (off := 2) Gs.encF (fun x => .int .u8 x.a) (fun _ => rfl) (by decide) (by kernel_rfl) (by kernel_rfl) (by kernel_rfl) rd6 (by first | rfl | assumption | omega) (by omega) (by omega) (fun x6 hx6 => ?_)
          try simp only [Int.toNat_natCast] at hx6
          have hxa := Gs.all_a hcw hx6
          refine gdtt ?_
          refine callF_bool (c_ref11_Bit hxa) (fun w7 U7 h7 => ?_) (fun w7 U7 h7 => ?_)
          · replace rd6 := rd6.upd0 U7
            replace h_b1 := U7.get0 h_b1
            replace hF := hF.go0 U7
            try simp only [decide_eq_true_eq, decide_eq_false_iff_not] at h7
            refine gdtt ?_
            refine opv_run (notT) ?_
            refine pickt ?_
            refine condf ?_
            first | refine opv_run (add_i64 _ (by omega)) ?_ | refine opv_run (addI _ _ _ _) ?_
            exact ⟨⟨k + 1, (by first | exact g4 | rfl), by omega, (by first | exact Gs.noneH_stepA hno hx4 (Gs.homeF_l (by assumption)) | exact Gs.noneH_stepA hno hx4 (Gs.homeF_p (by rw [Option.some.inj (hx4.symm.trans hx6)]; assumption))), rd6, h_b1, hF⟩, cnt_lt (by first | rfl | exact g4) rfl (by omega)⟩
          · replace rd6 := rd6.upd0 U7
            replace h_b1 := U7.get0 h_b1
            replace hF := hF.go0 U7
            try simp only [decide_eq_true_eq, decide_eq_false_iff_not] at h7
            refine gdtt ?_
            refine opv_run (notF) ?_
            refine pickt ?_
            refine condt ?_
            refine drawn_S (S := no) (fun w8 U8 => ?_)
            replace rd6 := rd6.upd0 U8
            replace h_b1 := U8.get0 h_b1
            replace hF := hF.go0 U8
            refine qidx_rowF (off := 0) Gs.encF (fun x => .int .i64 x.s) (fun _ => rfl) (by decide) (by kernel_rfl) (by kernel_rfl) (by kernel_rfl) (fun w' hw' => rd6.upd0 hw') (Fr.refl _ _ _) (by first | rfl | assumption | omega) (by omega) (by omega) (fun x9 hx9 => ?_)
            try simp only [Int.toNat_natCast] at hx9
            have hxi := Gs.all_in hx9
            first | refine qop_run (fun w' hw' => (add_i64 _ (by omega))) ?_ | refine qop_run (fun w' hw' => (addI _ _ _ _)) ?_
            refine qop_run (fun w' hw' => (fieldAt_eq (off := 2) (by kernel_rfl))) ?_
            refine qop_run (fun w' hw' => by have h_b1 := hw'.get0 h_b1; exact (ldC (by kernel_rfl) h_b1 (by rfl))) ?_
            refine qop_run (fun w' hw' => (len_sl (by kernel_rfl) _ _ _)) ?_
            refine qop_run (fun w' hw' => (remN _ (by omega) (by omega) (by omega))) ?_
            refine ext_intro (fun w10 U10 => ?_)
            replace rd6 := rd6.upd0 U10
            replace h_b1 := U10.get0 h_b1
            replace hF := hF.go0 U10
            first | (rw [← Gs.home_atA hno hx9 (Gs.homeF_T (by rw [Option.some.inj (hx9.symm.trans hx4)]; assumption) (by rw [Option.some.inj (hx9.symm.trans hx6)]; assumption))]; exact ⟨rfl, hF⟩) | (rw [Gs.home_none hno]; exact ⟨rfl, hF⟩)
        · refine gdft ?_
          refine gdft ?_
          refine gdft ?_
          refine gdft ?_
          refine gdft ?_
          refine gdft ?_
          refine gdft ?_
          refine pickf ?_
          refine condf ?_
          first | refine opv_run (add_i64 _ (by omega)) ?_ | refine opv_run (addI _ _ _ _) ?_
          exact ⟨⟨k + 1, (by first | exact g4 | rfl), by omega, (by first | exact Gs.noneH_stepA hno hx4 (Gs.homeF_l (by assumption)) | exact Gs.noneH_stepA hno hx4 (Gs.homeF_p (by rw [Option.some.inj (hx4.symm.trans hx6)]; assumption))), rd6, h_b1, hF⟩, cnt_lt (by first | rfl | exact g4) rfl (by omega)⟩
      · refine condf ?_
        refine hJ1 _ _ ?_
        exact ⟨(by rw [show (Gs.startsN cs).length = k by omega]; exact hno), hF⟩
  · obtain ⟨hno, hF⟩ := hI
    first | (rw [← Gs.home_atA hno hx9 (Gs.homeF_T (by rw [Option.some.inj (hx9.symm.trans hx4)]; assumption) (by rw [Option.some.inj (hx9.symm.trans hx6)]; assumption))]; exact ⟨rfl, hF⟩) | (rw [Gs.home_none hno]; exact ⟨rfl, hF⟩)

/-- greenscreen/greenscreenref15.Text -/
theorem c_ref15_Text {r c cur : Int} {A : Option Addr} {n cp : Nat} {cs : List Gs.Cell} {w : World} (rd1 : Rd w A (rows Gs.cv cs)) (hn : n = cs.length) (hb : n ≤ 4096) {page : Int} {f : Gs.Fld} (hcw : Gs.Cws cs) (hfa : 0 ≤ f.a ∧ f.a ≤ 255) :
    Calls Try.prog 21 #[.agg #[.int .i64 r, .int .i64 c, .slice A n cp, .int .i64 cur], .int .i64 page, .agg (Gs.fv f).toArray] w fun e w' => e = .returned (.string (runesBytes (Gs.textM page cs f))) ∧ Upd no w w' := by
  refine F21.calls ?_
  unfold F21
  subst hn
  have lt_rd1 := Rd.lt rd1
  have hF : Upd no w w := Fr.refl _ _ _
  refine box_intro (by rfl) (fun b1 w1 e1 h_b1 _ U1 => ?_)
  have na_rd1_b1 := rd1.apart e1
  have ge_b1 : w.heap.size ≤ b1 := by have := hF.size; omega
  replace rd1 := rd1.upd0 U1
  replace hF := hF.go0 U1
  clear e1
  refine box_intro (cs := (Gs.fv f).toArray) (by rfl) (fun b2 w2 e2 h_b2 _ U2 => ?_)
  have na_rd1_b2 := rd1.apart e2
  have ne_b1_b2 : b1 ≠ b2 := by have := lt_get h_b1; omega
  have ge_b2 : w.heap.size ≤ b2 := by have := hF.size; omega
  replace rd1 := rd1.upd0 U2
  replace h_b1 := U2.get0 h_b1
  replace hF := hF.go0 U2
  clear e2
  refine opv_run (ldA (n := 4) (by kernel_rfl) h_b1 (by first | exact Nat.le_of_ble_eq_true rfl | (simp; done) | omega) (by rfl)) ?_
  refine opv_run (ldA (n := 3) (cs' := (Gs.fv f).toArray) (by kernel_rfl) h_b2 (by first | exact Nat.le_of_ble_eq_true rfl | (simp; done) | omega) (by rfl)) ?_
  refine callF_ex (c_ref15_Places rd1 rfl hb (f := f)) (fun v3 w3 D3 => ?_)
  obtain ⟨A12, c12, rfl, rd12, gA12, lc12, U3⟩ := D3
  have na_rd12_b1 := gA12.ne (lt_get h_b1)
  have na_rd12_b2 := gA12.ne (lt_get h_b2)
  replace rd1 := rd1.upd0 U3
  replace h_b1 := U3.get0 h_b1
  replace h_b2 := U3.get0 h_b2
  replace hF := hF.go0 U3
  refine join_cut (fun g w' => (g 7 = .string (runesBytes (Gs.textM page cs f))) ∧ (Upd no w w')) (fun J1 hJ1 => ?_) (fun gJ1 wJ1 hI => ?_)
  · refine loop_intro (fun g w' => ∃ (k : Nat), (g 9 = .int .i64 (k : Int)) ∧ (k ≤ (Gs.placesL cs.length f).length) ∧ (g 7 = .string (runesBytes ((Gs.textM page cs f).take k))) ∧ (Rd w' A12 (vals .i64 (Gs.placesL cs.length f))) ∧ (w'.heap[b1]? = some (.cells #[.int .i64 r, .int .i64 c, .slice A cs.length cp, .int .i64 cur] 28 (0, 0))) ∧ (w'.heap[b2]? = some (.cells (Gs.fv f).toArray 40 (0, 0))) ∧ (Rd w' A (rows Gs.cv cs)) ∧ (Upd no w w')) (fun g w' => (Gs.placesL cs.length f).length - (RowKit.intOf (g 9)).toNat) ?_ (fun g2 wl2 hI => ?_)
    · exact ⟨0, (by first | exact g9 | rfl), Nat.zero_le _, rfl, rd12, h_b1, h_b2, rd1, hF⟩
    · obtain ⟨k, g9, hk, g7, rd12, h_b1, h_b2, rd1, hF⟩ := hI
      try rw [g9]
      try rw [g7]
      have hple := Gs.places_le cs.length f
      refine opv_run (len_sl (by kernel_rfl) _ _ _) ?_
      refine opv_dec (lss _ _ _ _) (fun h4 => ?_) (fun h4 => ?_)
      · refine condt ?_
        refine join_cut (fun g w' => (g 7 = .string (runesBytes ((Gs.textM page cs f).take (k + 1)))) ∧ (Rd w' A12 (vals .i64 (Gs.placesL cs.length f))) ∧ (w'.heap[b1]? = some (.cells #[.int .i64 r, .int .i64 c, .slice A cs.length cp, .int .i64 cur] 28 (0, 0))) ∧ (w'.heap[b2]? = some (.cells (Gs.fv f).toArray 40 (0, 0))) ∧ (Rd w' A (rows Gs.cv cs)) ∧ (Upd no w w')) (fun J3 hJ3 => ?_) (fun gJ3 wJ3 hI => ?_)
        · refine opv_run (fieldAt_eq (off := 2) (by kernel_rfl)) ?_
          refine opv_run (ldC (by kernel_rfl) h_b2 (by rfl)) ?_
          have htz := Gs.text_take_size (page := page) (cs := cs) (f := f) (k := k) (by omega) hb
          rw [Gs.len_toListR] at htz
          refine callF_val (c_ref11_Shown hfa) (fun w5 U5 => ?_)
          replace rd12 := rd12.upd0 U5
          replace rd1 := rd1.upd0 U5
          replace h_b1 := U5.get0 h_b1
          replace h_b2 := U5.get0 h_b2
          replace hF := hF.go0 U5
          refine opv_dec (eqI _ _ _ _ _) (fun h6 => ?_) (fun h6 => ?_)
          · refine condt ?_
            refine opv_run (addS (by first | assumption | omega | (simp only [str_size, List.length_append, List.length_cons, List.length_nil]; omega) | simp [*])) ?_
            refine hJ3 _ _ ?_
            exact ⟨(congrArg Value.string (by first | exact Gs.textR_3 (by omega) (by assumption) | exact Gs.textR_n hx? hx? (by assumption))), rd12, h_b1, h_b2, rd1, hF⟩
          · refine condf ?_
            refine drawn_S (S := no) (fun w7 U7 => ?_)
            replace rd12 := rd12.upd0 U7
            replace rd1 := rd1.upd0 U7
            replace h_b1 := U7.get0 h_b1
            replace h_b2 := U7.get0 h_b2
            replace hF := hF.go0 U7
            refine qop_run (fun w' hw' => (fieldAt_eq (off := 2) (by kernel_rfl))) ?_
            refine qop_run (fun w' hw' => by have h_b1 := hw'.get0 h_b1; exact (ldC (by kernel_rfl) h_b1 (by rfl))) ?_
            refine qidx1 (by kernel_rfl) (by kernel_rfl) (fun w' hw' => rd12.upd0 hw') (Fr.refl _ _ _) (by first | rfl | assumption | omega | (simp; done) | (simp [vals_length, *]; done) | (simp [vals_length] at *; omega)) (by omega) (by omega) (fun x8 hx8 => ?_)
            try simp only [Int.toNat_natCast] at hx8
            have hpg := Gs.places_get hx8
            refine qidx Gs.encC (by kernel_rfl) (by kernel_rfl) (fun w' hw' => rd1.upd0 hw') (Fr.refl _ _ _) (by first | rfl | assumption | omega) (by omega) (by omega) (fun x9 hx9 => ?_)
            try simp only [Int.toNat_natCast] at hx9
            have hcb := hcw.get hx9
            refine qop_call (fun w' hw' => c_greenscreenref14_Sign hcb) ?_
            have hes := Gs.enc_size (Gs.sign1 page x9)
            refine qop_run (fun w' hw' => (addS (by first | assumption | omega | (simp only [str_size, List.length_append, List.length_cons, List.length_nil]; omega) | simp [*]))) ?_
            refine ext_intro (fun w11 U11 => ?_)
            replace rd12 := rd12.upd0 U11
            replace rd1 := rd1.upd0 U11
            replace h_b1 := U11.get0 h_b1
            replace h_b2 := U11.get0 h_b2
            replace hF := hF.go0 U11
            refine hJ3 _ _ ?_
            exact ⟨(congrArg Value.string (by first | exact Gs.textR_3 (by omega) (by assumption) | exact Gs.textR_n hx8 hx9 (by assumption))), rd12, h_b1, h_b2, rd1, hF⟩
        · obtain ⟨g7, rd12, h_b1, h_b2, rd1, hF⟩ := hI
          try rw [g7]
          first | refine opv_run (add_i64 _ (by omega)) ?_ | refine opv_run (addI _ _ _ _) ?_
          exact ⟨⟨k + 1, (by first | exact g9 | rfl), by omega, (by first | exact g7 | rfl), rd12, h_b1, h_b2, rd1, hF⟩, cnt_lt (by first | rfl | exact g9) rfl (by omega)⟩
      · refine condf ?_
        refine hJ1 _ _ ?_
        exact ⟨(by rw [List.take_of_length_le (by rw [Gs.textM_len]; omega)] at g7; exact g7), hF⟩
  · obtain ⟨g7, hF⟩ := hI
    try rw [g7]
    exact ⟨rfl, hF⟩

/-- greenscreen/greenscreenref15.Mark -/
theorem c_ref15_Mark_T {r c cur : Int} {A : Option Addr} {n cp : Nat} {cs : List Gs.Cell} {w : World} (rd1 : Rd w A (rows Gs.cv cs)) (hn : n = cs.length) (hb : n ≤ 4096) {i : Int} (hcw : Gs.Cws cs) :
    Calls Try.prog 32 #[.agg #[.int .i64 r, .int .i64 c, .slice A n cp, .int .i64 cur], .int .i64 i, .bool true] w fun e w' => ∃ v, e = .returned v ∧ ∃ A' c', v = .agg #[.int .i64 r, .int .i64 c, .slice A' n c', .int .i64 cur] ∧ Rd w' A' (rows Gs.cv (Gs.markQ true cs i)) ∧ (∀ k, blkOf A' k → blkOf A k ∨ w.heap.size ≤ k) ∧ Upd no w w' := by
  refine F32.calls ?_
  unfold F32
  subst hn
  have lt_rd1 := Rd.lt rd1
  have hF : Upd no w w := Fr.refl _ _ _
  refine box_intro (by rfl) (fun b1 w1 e1 h_b1 _ U1 => ?_)
  have na_rd1_b1 := rd1.apart e1
  have ge_b1 : w.heap.size ≤ b1 := by have := hF.size; omega
  replace rd1 := rd1.upd0 U1
  replace hF := hF.go0 U1
  clear e1
  refine alloc_intro (cs := #[.int .i64 0, .int .i64 0, .slice none 0 0, .int .i64 0]) (by kernel_rfl) (fun b2 w2 e2 h_b2 _ U2 => ?_)
  have na_rd1_b2 := rd1.apart e2
  have ne_b1_b2 : b1 ≠ b2 := by have := lt_get h_b1; omega
  have ge_b2 : w.heap.size ≤ b2 := by have := hF.size; omega
  replace rd1 := rd1.upd0 U2
  replace h_b1 := U2.get0 h_b1
  replace hF := hF.go0 U2
  clear e2
  refine opv_run (ldA (n := 4) (by kernel_rfl) h_b1 (by first | exact Nat.le_of_ble_eq_true rfl | (simp; done) | omega) (by rfl)) ?_
  refine callF_val (c_ref15_Of rd1 rfl hb (i := i) hcw) (fun w3 U3 => ?_)
  replace rd1 := rd1.upd0 U3
  replace h_b1 := U3.get0 h_b1
  replace h_b2 := U3.get0 h_b2
  replace hF := hF.go0 U3
  cases hob : Gs.ofB cs i
  · refine opv_run (ext_t (by rfl)) ?_
    refine opv_run (ext_t (by rfl)) ?_
    refine alloc_intro (cs := (Gs.fv Gs.zf).toArray) (by kernel_rfl) (fun b4 w4 e4 h_b4 _ U4 => ?_)
    have na_rd1_b4 := rd1.apart e4
    have ne_b1_b4 : b1 ≠ b4 := by have := lt_get h_b1; omega
    have ne_b2_b4 : b2 ≠ b4 := by have := lt_get h_b2; omega
    have ge_b4 : w.heap.size ≤ b4 := by have := hF.size; omega
    replace rd1 := rd1.upd0 U4
    replace h_b1 := U4.get0 h_b1
    replace h_b2 := U4.get0 h_b2
    replace hF := hF.go0 U4
    clear e4
    refine store_intro (n := 3) (cs' := (Gs.fv (Gs.ofM cs i)).toArray) (by kernel_rfl) (by rfl) (by first | rfl | (simp [Value.cells, Value.oneCell', Gs.cv, Gs.fv]; done)) h_b4 (by first | exact Nat.le_of_ble_eq_true rfl | (simp; done) | omega) (by rfl) (fun w5 N5 _ U5 => ?_)
    replace rd1 := rd1.upd1 U5 na_rd1_b4
    replace h_b1 := U5.get1 h_b1 ne_b1_b4
    replace h_b2 := U5.get1 h_b2 ne_b2_b4
    replace h_b4 := N5
    replace hF := hF.go1 U5 ge_b4
    refine opv_run (notF) ?_
    refine condt ?_
    refine opv_run (ldA (n := 4) (by kernel_rfl) h_b1 (by first | exact Nat.le_of_ble_eq_true rfl | (simp; done) | omega) (by rfl)) ?_
    refine store_intro (n := 4) (by kernel_rfl) (by rfl) (by first | rfl | (simp [Value.cells, Value.oneCell', Gs.cv, Gs.fv]; done)) h_b2 (by first | exact Nat.le_of_ble_eq_true rfl | (simp; done) | omega) (by first | (simp; rfl) | rfl) (fun w6 N6 _ U6 => ?_)
    replace rd1 := rd1.upd1 U6 na_rd1_b2
    replace h_b1 := U6.get1 h_b1 ne_b1_b2
    replace h_b4 := U6.get1 h_b4 (Ne.symm ne_b2_b4)
    replace h_b2 := N6
    replace hF := hF.go1 U6 ge_b2
    refine ldv_run (ldA (n := 4) (by kernel_rfl) h_b2 (by first | exact Nat.le_of_ble_eq_true rfl | simp | omega) (by rfl)) ?_
    first | (rw [Gs.markQ_no hob]; exact ⟨_, rfl, A, cp, rfl, rd1, fun k hk => .inl hk, hF⟩) | (rw [hmq.1]; unfold Gs.modC; rw [hgx]; exact ⟨_, rfl, A34, c34, rfl, rd34, hA34, hF⟩)
  · refine opv_run (ext_t (by rfl)) ?_
    refine opv_run (ext_t (by rfl)) ?_
    refine alloc_intro (cs := (Gs.fv Gs.zf).toArray) (by kernel_rfl) (fun b8 w8 e8 h_b8 _ U8 => ?_)
    have na_rd1_b8 := rd1.apart e8
    have ne_b1_b8 : b1 ≠ b8 := by have := lt_get h_b1; omega
    have ne_b2_b8 : b2 ≠ b8 := by have := lt_get h_b2; omega
    have ge_b8 : w.heap.size ≤ b8 := by have := hF.size; omega
    replace rd1 := rd1.upd0 U8
    replace h_b1 := U8.get0 h_b1
    replace h_b2 := U8.get0 h_b2
    replace hF := hF.go0 U8
    clear e8
    refine store_intro (n := 3) (cs' := (Gs.fv (Gs.ofM cs i)).toArray) (by kernel_rfl) (by rfl) (by first | rfl | (simp [Value.cells, Value.oneCell', Gs.cv, Gs.fv]; done)) h_b8 (by first | exact Nat.le_of_ble_eq_true rfl | (simp; done) | omega) (by rfl) (fun w9 N9 _ U9 => ?_)
    replace rd1 := rd1.upd1 U9 na_rd1_b8
    replace h_b1 := U9.get1 h_b1 ne_b1_b8
    replace h_b2 := U9.get1 h_b2 ne_b2_b8
    replace h_b8 := N9
    replace hF := hF.go1 U9 ge_b8
    refine opv_run (notT) ?_
    refine condf ?_
    refine opv_run (fieldAt_eq (off := 2) (by kernel_rfl)) ?_
    refine opv_run (ldC (by kernel_rfl) h_b1 (by rfl)) ?_
    refine opv_run (fieldAt_eq (off := 0) (by kernel_rfl)) ?_
    refine opv_run (ldC (by kernel_rfl) h_b8 (by rfl)) ?_
    have hmq := Gs.markQ_yes (q := true) hob
    refine idx_rows Gs.encC (by kernel_rfl) (by kernel_rfl) rd1 (by first | rfl | assumption | omega) (by omega) (by omega) (fun x10 hx10 => ?_)
    try simp only [Int.toNat_natCast] at hx10
    have hcb := hcw.get hx10
    have hgx : Gs.getC cs (Gs.ofM cs i).s = x10 := Gs.getC_in hmq.2.1 hx10
    refine alloc_intro (cs := (Gs.cv Gs.zc).toArray) (by kernel_rfl) (fun b11 w11 e11 h_b11 _ U11 => ?_)
    have na_rd1_b11 := rd1.apart e11
    have ne_b1_b11 : b1 ≠ b11 := by have := lt_get h_b1; omega
    have ne_b2_b11 : b2 ≠ b11 := by have := lt_get h_b2; omega
    have ne_b8_b11 : b8 ≠ b11 := by have := lt_get h_b8; omega
    have ge_b11 : w.heap.size ≤ b11 := by have := hF.size; omega
    replace rd1 := rd1.upd0 U11
    replace h_b1 := U11.get0 h_b1
    replace h_b2 := U11.get0 h_b2
    replace h_b8 := U11.get0 h_b8
    replace hF := hF.go0 U11
    clear e11
    refine store_intro (n := 5) (cs' := (Gs.cv x10).toArray) (by kernel_rfl) (by rfl) (by first | rfl | (simp [Value.cells, Value.oneCell', Gs.cv, Gs.fv]; done)) h_b11 (by first | exact Nat.le_of_ble_eq_true rfl | (simp; done) | omega) (by rfl) (fun w12 N12 _ U12 => ?_)
    replace rd1 := rd1.upd1 U12 na_rd1_b11
    replace h_b1 := U12.get1 h_b1 ne_b1_b11
    replace h_b2 := U12.get1 h_b2 ne_b2_b11
    replace h_b8 := U12.get1 h_b8 ne_b8_b11
    replace h_b11 := N12
    replace hF := hF.go1 U12 ge_b11
    refine opv_run (fieldAt_eq (off := 0) (by kernel_rfl)) ?_
    refine opv_run (ldC (by kernel_rfl) h_b11 (by rfl)) ?_
    refine callF_val (c_ref11_Modify_T hcb) (fun w13 U13 => ?_)
    replace rd1 := rd1.upd0 U13
    replace h_b1 := U13.get0 h_b1
    replace h_b2 := U13.get0 h_b2
    replace h_b8 := U13.get0 h_b8
    replace h_b11 := U13.get0 h_b11
    replace hF := hF.go0 U13
    refine opv_run (fieldAt_eq (off := 0) (by kernel_rfl)) ?_
    refine store1_intro (by kernel_rfl) rfl rfl h_b11 (by first | exact Nat.le_of_ble_eq_true rfl | (simp; done) | omega | (simp [vals_length, *]; done) | (simp [vals_length, *]; omega)) (by first | (simp [vals_set]; rfl) | rfl) (fun w14 N14 _ U14 => ?_)
    replace rd1 := rd1.upd1 U14 na_rd1_b11
    replace h_b1 := U14.get1 h_b1 ne_b1_b11
    replace h_b2 := U14.get1 h_b2 ne_b2_b11
    replace h_b8 := U14.get1 h_b8 ne_b8_b11
    replace h_b11 := N14
    replace hF := hF.go1 U14 ge_b11
    refine opv_run (ldA (n := 4) (by kernel_rfl) h_b1 (by first | exact Nat.le_of_ble_eq_true rfl | (simp; done) | omega) (by rfl)) ?_
    refine opv_run (fieldAt_eq (off := 0) (by kernel_rfl)) ?_
    refine opv_run (ldC (by kernel_rfl) h_b8 (by rfl)) ?_
    refine opv_run (ldA (n := 5) (by kernel_rfl) h_b11 (by first | exact Nat.le_of_ble_eq_true rfl | (simp; done) | omega) (by rfl)) ?_
    have q35 := hF.size
    have q34 := lt_get h_b2
    have hne : rows Gs.cv cs ≠ [] := fun he => by have := congrArg List.length he; rw [rows_len Gs.encC] at this; simp only [List.length_nil] at this; omega
    refine callF_ex (c_greenscreenref14_Set rd1 rfl (i := (Gs.ofM cs i).s) (x := Gs.modX true x10) hb) (fun v15 w15 D15 => ?_)
    obtain ⟨A34, c34, rfl, rd34, hA34, U15⟩ := D15
    replace rd1 := rd1.upd0 U15
    replace h_b1 := U15.get0 h_b1
    replace h_b2 := U15.get0 h_b2
    replace h_b8 := U15.get0 h_b8
    replace h_b11 := U15.get0 h_b11
    replace hF := hF.go0 U15
    have na_rd34_b2 : rows Gs.cv (Gs.setC cs (Gs.ofM cs i).s (Gs.modX true x10)) = [] ∨ ∀ k, blkOf A34 k → k ≠ b2 := .inr fun k hk => (hA34 k hk).elim (na_rd1_b2.resolve_left hne k) (fun h => by omega)
    replace hA34 : ∀ k, blkOf A34 k → blkOf A k ∨ w.heap.size ≤ k := fun k hk => (hA34 k hk).imp id (fun h => by omega)
    refine store_intro (n := 4) (cs' := #[.int .i64 r, .int .i64 c, .slice A34 cs.length c34, .int .i64 cur]) (by kernel_rfl) (by rfl) (by first | rfl | (simp [Value.cells, Value.oneCell', Gs.cv, Gs.fv]; done)) h_b2 (by first | exact Nat.le_of_ble_eq_true rfl | (simp; done) | omega) (by rfl) (fun w16 N16 _ U16 => ?_)
    replace rd1 := rd1.upd1 U16 na_rd1_b2
    replace rd34 := rd34.upd1 U16 (by assumption)
    replace h_b1 := U16.get1 h_b1 ne_b1_b2
    replace h_b8 := U16.get1 h_b8 (Ne.symm ne_b2_b8)
    replace h_b11 := U16.get1 h_b11 (Ne.symm ne_b2_b11)
    replace h_b2 := N16
    replace hF := hF.go1 U16 ge_b2
    refine ldv_run (ldA (n := 4) (by kernel_rfl) h_b2 (by first | exact Nat.le_of_ble_eq_true rfl | simp | omega) (by rfl)) ?_
    first | (rw [Gs.markQ_no hob]; exact ⟨_, rfl, A, cp, rfl, rd1, fun k hk => .inl hk, hF⟩) | (rw [hmq.1]; unfold Gs.modC; rw [hgx]; exact ⟨_, rfl, A34, c34, rfl, rd34, hA34, hF⟩)

/-- greenscreen/greenscreenref15.Mark -/
theorem c_ref15_Mark_F {r c cur : Int} {A : Option Addr} {n cp : Nat} {cs : List Gs.Cell} {w : World} (rd1 : Rd w A (rows Gs.cv cs)) (hn : n = cs.length) (hb : n ≤ 4096) {i : Int} (hcw : Gs.Cws cs) :
    Calls Try.prog 32 #[.agg #[.int .i64 r, .int .i64 c, .slice A n cp, .int .i64 cur], .int .i64 i, .bool false] w fun e w' => ∃ v, e = .returned v ∧ ∃ A' c', v = .agg #[.int .i64 r, .int .i64 c, .slice A' n c', .int .i64 cur] ∧ Rd w' A' (rows Gs.cv (Gs.markQ false cs i)) ∧ (∀ k, blkOf A' k → blkOf A k ∨ w.heap.size ≤ k) ∧ Upd no w w' := by
  refine F32.calls ?_
  unfold F32
  subst hn
  have lt_rd1 := Rd.lt rd1
  have hF : Upd no w w := Fr.refl _ _ _
  refine box_intro (by rfl) (fun b1 w1 e1 h_b1 _ U1 => ?_)
  have na_rd1_b1 := rd1.apart e1
  have ge_b1 : w.heap.size ≤ b1 := by have := hF.size; omega
  replace rd1 := rd1.upd0 U1
  replace hF := hF.go0 U1
  clear e1
  refine alloc_intro (cs := #[.int .i64 0, .int .i64 0, .slice none 0 0, .int .i64 0]) (by kernel_rfl) (fun b2 w2 e2 h_b2 _ U2 => ?_)
  have na_rd1_b2 := rd1.apart e2
  have ne_b1_b2 : b1 ≠ b2 := by have := lt_get h_b1; omega
  have ge_b2 : w.heap.size ≤ b2 := by have := hF.size; omega
  replace rd1 := rd1.upd0 U2
  replace h_b1 := U2.get0 h_b1
  replace hF := hF.go0 U2
  clear e2
  refine opv_run (ldA (n := 4) (by kernel_rfl) h_b1 (by first | exact Nat.le_of_ble_eq_true rfl | (simp; done) | omega) (by rfl)) ?_
  refine callF_val (c_ref15_Of rd1 rfl hb (i := i) hcw) (fun w3 U3 => ?_)
  replace rd1 := rd1.upd0 U3
  replace h_b1 := U3.get0 h_b1
  replace h_b2 := U3.get0 h_b2
  replace hF := hF.go0 U3
  cases hob : Gs.ofB cs i
  · refine opv_run (ext_t (by rfl)) ?_
    refine opv_run (ext_t (by rfl)) ?_
    refine alloc_intro (cs := (Gs.fv Gs.zf).toArray) (by kernel_rfl) (fun b4 w4 e4 h_b4 _ U4 => ?_)
    have na_rd1_b4 := rd1.apart e4
    have ne_b1_b4 : b1 ≠ b4 := by have := lt_get h_b1; omega
    have ne_b2_b4 : b2 ≠ b4 := by have := lt_get h_b2; omega
    have ge_b4 : w.heap.size ≤ b4 := by have := hF.size; omega
    replace rd1 := rd1.upd0 U4
    replace h_b1 := U4.get0 h_b1
    replace h_b2 := U4.get0 h_b2
    replace hF := hF.go0 U4
    clear e4
    refine store_intro (n := 3) (cs' := (Gs.fv (Gs.ofM cs i)).toArray) (by kernel_rfl) (by rfl) (by first | rfl | (simp [Value.cells, Value.oneCell', Gs.cv, Gs.fv]; done)) h_b4 (by first | exact Nat.le_of_ble_eq_true rfl | (simp; done) | omega) (by rfl) (fun w5 N5 _ U5 => ?_)
    replace rd1 := rd1.upd1 U5 na_rd1_b4
    replace h_b1 := U5.get1 h_b1 ne_b1_b4
    replace h_b2 := U5.get1 h_b2 ne_b2_b4
    replace h_b4 := N5
    replace hF := hF.go1 U5 ge_b4
    refine opv_run (notF) ?_
    refine condt ?_
    refine opv_run (ldA (n := 4) (by kernel_rfl) h_b1 (by first | exact Nat.le_of_ble_eq_true rfl | (simp; done) | omega) (by rfl)) ?_
    refine store_intro (n := 4) (by kernel_rfl) (by rfl) (by first | rfl | (simp [Value.cells, Value.oneCell', Gs.cv, Gs.fv]; done)) h_b2 (by first | exact Nat.le_of_ble_eq_true rfl | (simp; done) | omega) (by first | (simp; rfl) | rfl) (fun w6 N6 _ U6 => ?_)
    replace rd1 := rd1.upd1 U6 na_rd1_b2
    replace h_b1 := U6.get1 h_b1 ne_b1_b2
    replace h_b4 := U6.get1 h_b4 (Ne.symm ne_b2_b4)
    replace h_b2 := N6
    replace hF := hF.go1 U6 ge_b2
    refine ldv_run (ldA (n := 4) (by kernel_rfl) h_b2 (by first | exact Nat.le_of_ble_eq_true rfl | simp | omega) (by rfl)) ?_
    first | (rw [Gs.markQ_no hob]; exact ⟨_, rfl, A, cp, rfl, rd1, fun k hk => .inl hk, hF⟩) | (rw [hmq.1]; unfold Gs.modC; rw [hgx]; exact ⟨_, rfl, A34, c34, rfl, rd34, hA34, hF⟩)
  · refine opv_run (ext_t (by rfl)) ?_
    refine opv_run (ext_t (by rfl)) ?_
    refine alloc_intro (cs := (Gs.fv Gs.zf).toArray) (by kernel_rfl) (fun b8 w8 e8 h_b8 _ U8 => ?_)
    have na_rd1_b8 := rd1.apart e8
    have ne_b1_b8 : b1 ≠ b8 := by have := lt_get h_b1; omega
    have ne_b2_b8 : b2 ≠ b8 := by have := lt_get h_b2; omega
    have ge_b8 : w.heap.size ≤ b8 := by have := hF.size; omega
    replace rd1 := rd1.upd0 U8
    replace h_b1 := U8.get0 h_b1
    replace h_b2 := U8.get0 h_b2
    replace hF := hF.go0 U8
    clear e8
    refine store_intro (n := 3) (cs' := (Gs.fv (Gs.ofM cs i)).toArray) (by kernel_rfl) (by rfl) (by first | rfl | (simp [Value.cells, Value.oneCell', Gs.cv, Gs.fv]; done)) h_b8 (by first | exact Nat.le_of_ble_eq_true rfl | (simp; done) | omega) (by rfl) (fun w9 N9 _ U9 => ?_)
    replace rd1 := rd1.upd1 U9 na_rd1_b8
    replace h_b1 := U9.get1 h_b1 ne_b1_b8
    replace h_b2 := U9.get1 h_b2 ne_b2_b8
    replace h_b8 := N9
    replace hF := hF.go1 U9 ge_b8
    refine opv_run (notT) ?_
    refine condf ?_
    refine opv_run (fieldAt_eq (off := 2) (by kernel_rfl)) ?_
    refine opv_run (ldC (by kernel_rfl) h_b1 (by rfl)) ?_
    refine opv_run (fieldAt_eq (off := 0) (by kernel_rfl)) ?_
    refine opv_run (ldC (by kernel_rfl) h_b8 (by rfl)) ?_
    have hmq := Gs.markQ_yes (q := false) hob
    refine idx_rows Gs.encC (by kernel_rfl) (by kernel_rfl) rd1 (by first | rfl | assumption | omega) (by omega) (by omega) (fun x10 hx10 => ?_)
    try simp only [Int.toNat_natCast] at hx10
    have hcb := hcw.get hx10
    have hgx : Gs.getC cs (Gs.ofM cs i).s = x10 := Gs.getC_in hmq.2.1 hx10
    refine alloc_intro (cs := (Gs.cv Gs.zc).toArray) (by kernel_rfl) (fun b11 w11 e11 h_b11 _ U11 => ?_)
    have na_rd1_b11 := rd1.apart e11
    have ne_b1_b11 : b1 ≠ b11 := by have := lt_get h_b1; omega
    have ne_b2_b11 : b2 ≠ b11 := by have := lt_get h_b2; omega
    have ne_b8_b11 : b8 ≠ b11 := by have := lt_get h_b8; omega
    have ge_b11 : w.heap.size ≤ b11 := by have := hF.size; omega
    replace rd1 := rd1.upd0 U11
    replace h_b1 := U11.get0 h_b1
    replace h_b2 := U11.get0 h_b2
    replace h_b8 := U11.get0 h_b8
    replace hF := hF.go0 U11
    clear e11
    refine store_intro (n := 5) (cs' := (Gs.cv x10).toArray) (by kernel_rfl) (by rfl) (by first | rfl | (simp [Value.cells, Value.oneCell', Gs.cv, Gs.fv]; done)) h_b11 (by first | exact Nat.le_of_ble_eq_true rfl | (simp; done) | omega) (by rfl) (fun w12 N12 _ U12 => ?_)
    replace rd1 := rd1.upd1 U12 na_rd1_b11
    replace h_b1 := U12.get1 h_b1 ne_b1_b11
    replace h_b2 := U12.get1 h_b2 ne_b2_b11
    replace h_b8 := U12.get1 h_b8 ne_b8_b11
    replace h_b11 := N12
    replace hF := hF.go1 U12 ge_b11
    refine opv_run (fieldAt_eq (off := 0) (by kernel_rfl)) ?_
    refine opv_run (ldC (by kernel_rfl) h_b11 (by rfl)) ?_
    refine callF_val (c_ref11_Modify_F hcb) (fun w13 U13 => ?_)
    replace rd1 := rd1.upd0 U13
    replace h_b1 := U13.get0 h_b1
    replace h_b2 := U13.get0 h_b2
    replace h_b8 := U13.get0 h_b8
    replace h_b11 := U13.get0 h_b11
    replace hF := hF.go0 U13
    refine opv_run (fieldAt_eq (off := 0) (by kernel_rfl)) ?_
    refine store1_intro (by kernel_rfl) rfl rfl h_b11 (by first | exact Nat.le_of_ble_eq_true rfl | (simp; done) | omega | (simp [vals_length, *]; done) | (simp [vals_length, *]; omega)) (by first | (simp [vals_set]; rfl) | rfl) (fun w14 N14 _ U14 => ?_)
    replace rd1 := rd1.upd1 U14 na_rd1_b11
    replace h_b1 := U14.get1 h_b1 ne_b1_b11
    replace h_b2 := U14.get1 h_b2 ne_b2_b11
    replace h_b8 := U14.get1 h_b8 ne_b8_b11
    replace h_b11 := N14
    replace hF := hF.go1 U14 ge_b11
    refine opv_run (ldA (n := 4) (by kernel_rfl) h_b1 (by first | exact Nat.le_of_ble_eq_true rfl | (simp; done) | omega) (by rfl)) ?_
    refine opv_run (fieldAt_eq (off := 0) (by kernel_rfl)) ?_
    refine opv_run (ldC (by kernel_rfl) h_b8 (by rfl)) ?_
    refine opv_run (ldA (n := 5) (by kernel_rfl) h_b11 (by first | exact Nat.le_of_ble_eq_true rfl | (simp; done) | omega) (by rfl)) ?_
    have q35 := hF.size
    have q34 := lt_get h_b2
    have hne : rows Gs.cv cs ≠ [] := fun he => by have := congrArg List.length he; rw [rows_len Gs.encC] at this; simp only [List.length_nil] at this; omega
    refine callF_ex (c_greenscreenref14_Set rd1 rfl (i := (Gs.ofM cs i).s) (x := Gs.modX false x10) hb) (fun v15 w15 D15 => ?_)
    obtain ⟨A34, c34, rfl, rd34, hA34, U15⟩ := D15
    replace rd1 := rd1.upd0 U15
    replace h_b1 := U15.get0 h_b1
    replace h_b2 := U15.get0 h_b2
    replace h_b8 := U15.get0 h_b8
    replace h_b11 := U15.get0 h_b11
    replace hF := hF.go0 U15
    have na_rd34_b2 : rows Gs.cv (Gs.setC cs (Gs.ofM cs i).s (Gs.modX false x10)) = [] ∨ ∀ k, blkOf A34 k → k ≠ b2 := .inr fun k hk => (hA34 k hk).elim (na_rd1_b2.resolve_left hne k) (fun h => by omega)
    replace hA34 : ∀ k, blkOf A34 k → blkOf A k ∨ w.heap.size ≤ k := fun k hk => (hA34 k hk).imp id (fun h => by omega)
    refine store_intro (n := 4) (cs' := #[.int .i64 r, .int .i64 c, .slice A34 cs.length c34, .int .i64 cur]) (by kernel_rfl) (by rfl) (by first | rfl | (simp [Value.cells, Value.oneCell', Gs.cv, Gs.fv]; done)) h_b2 (by first | exact Nat.le_of_ble_eq_true rfl | (simp; done) | omega) (by rfl) (fun w16 N16 _ U16 => ?_)
    replace rd1 := rd1.upd1 U16 na_rd1_b2
    replace rd34 := rd34.upd1 U16 (by assumption)
    replace h_b1 := U16.get1 h_b1 ne_b1_b2
    replace h_b8 := U16.get1 h_b8 (Ne.symm ne_b2_b8)
    replace h_b11 := U16.get1 h_b11 (Ne.symm ne_b2_b11)
    replace h_b2 := N16
    replace hF := hF.go1 U16 ge_b2
    refine ldv_run (ldA (n := 4) (by kernel_rfl) h_b2 (by first | exact Nat.le_of_ble_eq_true rfl | simp | omega) (by rfl)) ?_
    first | (rw [Gs.markQ_no hob]; exact ⟨_, rfl, A, cp, rfl, rd1, fun k hk => .inl hk, hF⟩) | (rw [hmq.1]; unfold Gs.modC; rw [hgx]; exact ⟨_, rfl, A34, c34, rfl, rd34, hA34, hF⟩)

end Go.Proofs.Ytojcbhkhfcddnaa
