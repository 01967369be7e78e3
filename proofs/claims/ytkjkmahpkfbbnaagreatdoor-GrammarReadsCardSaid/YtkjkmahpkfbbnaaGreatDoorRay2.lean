/-
  Contracts of functions of the program, walked over their shallow forms. No condition but the ones that each states.
-/
import Derived.Test.YtkjkmahpkfbbnaaGreatDoorRay
namespace Go.Proofs.YtkjkmahpkfbbnaaGreatDoor
open Go Go.Sh
set_option linter.unusedVariables false
set_option maxRecDepth 100000


/-- greenscreen/reply.All -/
theorem c_rp_All {r c cur : Int} {A : Option Addr} {n cp bp B0 : Nat} {cs : List Gs.Cell} {w : World} (h_bp : w.heap[bp]? = some (.cells #[.int .i64 r, .int .i64 c, .slice A n cp, .int .i64 cur] 57 (0, 0))) (own_p : Own B0 w 35 5 (.slice A n cp) (rows Gs.cv cs)) (hn : n = cs.length) {x : Int} (hp : 0 < n) (hN : Gs.cellsN r c = n) (hb : n ≤ 4096) (hcw : Gs.Cws cs)  :
    Calls Tryz.prog 25 #[.pointer (some ⟨bp, 0, none⟩), .int .u8 x] w fun e w' => ∃ v, e = .returned v ∧ Own w.heap.size w' 5 1 v (vals .u8 (Gs.allB cs cur x)) ∧ Upd no w w' := by
  refine F25.calls ?_
  unfold F25
  subst hn
  have hwl := Gs.full_len cs (Gs.placesA cs)
  rw [Gs.placesA_len] at hwl
  have hoe := Gs.outF_lenE hb
  have lt_h_bp := lt_get h_bp
  have lt_own_p := Own.lt own_p
  have hF : Upd no w w := Fr.refl _ _ _
  refine buildSlice_intro (e := 5) (m := 1) (z := #[.int .u8 0]) (by kernel_rfl) (by kernel_rfl) (by rfl) (by decide) (by first | (simp [fillL, splice, repL, Value.cells, Gs.cv, Gs.fv, Gs.ie]; done) | (simp [fillL, splice, repL, Value.cells, Gs.cv, Gs.fv, Gs.ie]; rfl)) (fun b1 w1 e1 h_b1 _ U1 => ?_)
  have ne_bp_b1 : bp ≠ b1 := by have := lt_get h_bp; omega
  have na_own_p_b1 := own_p.apart e1
  have ge_b1 : w.heap.size ≤ b1 := by have := hF.size; omega
  replace own_p := own_p.upd0 U1
  replace h_bp := U1.get0 h_bp
  replace hF := hF.go0 U1
  have zz1 := U1.size
  clear e1
  have own_b1 := Own.of_block (B := w.heap.size) (n := 1) (xs := vals .u8 [x]) (size := 1) h_b1 ge_b1 rfl (by decide)
  refine callF_val (c_Plane_Cursor h_bp own_p rfl) (fun w2 U2 => ?_)
  replace own_p := own_p.upd0 U2
  replace own_b1 := own_b1.upd0 U2
  replace h_bp := U2.get0 h_bp
  replace hF := hF.go0 U2
  have zz2 := U2.size
  refine callF_ex (c_rp_place h_bp own_p rfl (i := cur)) (fun v3 w3 D3 => ?_)
  obtain ⟨A11, c11, rfl, rd11, gA11, U3⟩ := D3
  have na_rd11_bp := gA11.ne (lt_get h_bp)
  have na_rd11_own_p : _ ∨ ∀ k, _ → ¬ ownS _ k := gA11.imp_right fun h k hk hs => by have := h k hk; have := (Own.ge own_p hs).2; omega
  have na_rd11_own_b1 : _ ∨ ∀ k, _ → ¬ ownS _ k := gA11.imp_right fun h k hk hs => by have := h k hk; have := (Own.ge own_b1 hs).2; omega
  replace own_p := own_p.upd0 U3
  replace own_b1 := own_b1.upd0 U3
  replace h_bp := U3.get0 h_bp
  replace hF := hF.go0 U3
  have zz3 := U3.size
  refine app_introA (e := 5) (size := 1) (bytes := 1) (by kernel_rfl) own_b1 rd11 (by first | (simp [vals_length]; done) | (simp [vals_length]; omega)) vals_one (by simp only [vals_length, List.length_take, List.length_cons, List.length_nil, List.length_append, List.length_map, List.length_range]; omega) (by have := hF.size; omega) (fun v4 w4 N4 hA4 U4 => ?_)
  have own_b1_o := own_b1
  have nb4_h_bp := ap_blk (S' := w3) (fun hs => by cases hs; exact ne_bp_b1 rfl) h_bp hA4
  have nb4_own_p := ap_own (S' := w3) (fun k hk hs => by cases hs; exact na_own_p_b1 _ hk rfl) own_p hA4
  have nb4_rd11 := ap_rd (S' := w3) na_rd11_own_b1 rd11 hA4
  replace h_bp := U4.get h_bp (fun hs => by cases hs; exact ne_bp_b1 rfl)
  replace own_p := own_p.updS U4 (fun k hk hs => by cases hs; exact na_own_p_b1 _ hk rfl)
  replace own_b1 := N4
  replace rd11 := rd11.updS U4 na_rd11_own_b1
  replace hF := hF.go U4 (fun i h hs => by first | exact hs | exact .inl hs | exact .inr hs | (have := (Own.ge own_b1_o hs).1; omega))
  have zz4 := U4.size
  clear own_b1_o
  refine callF_bool (c_field_Formatted h_bp own_p rfl hN hb) (fun w5 U5 h5 => ?_) (fun w5 U5 h5 => ?_)
  · replace own_p := own_p.upd0 U5
    replace own_b1 := own_b1.upd0 U5
    replace rd11 := rd11.upd0 U5
    replace h_bp := U5.get0 h_bp
    replace hF := hF.go0 U5
    have zz5 := U5.size
    try simp only [decide_eq_true_eq, decide_eq_false_iff_not] at h5
    refine condt ?_
    refine callF_ex (c_rp_fields h_bp own_p rfl hN hb hcw) (fun v6 w6 D6 => ?_)
    obtain ⟨own17, U6⟩ := D6
    obtain ⟨A17, c17, rfl, _⟩ := own17.rd1
    have nx6_h_bp_own17 : ¬ ownS _ bp := fun h => by have := (Own.ge own17 h).1; have := lt_get h_bp; omega
    have nx6_own_p_own17 : ∀ k, ownS _ k → ¬ ownS _ k := fun k hk hs => by have := (Own.ge own_p hk).2; have := (Own.ge own17 hs).1; omega
    have nx6_own_b1_own17 : ∀ k, ownS _ k → ¬ ownS _ k := fun k hk hs => by have := (Own.ge own_b1 hk).2; have := (Own.ge own17 hs).1; omega
    have nx6_rd11_own17 : _ ∨ ∀ k, _ → ¬ ownS _ k := (rd11.lt).imp_right fun h k hk hs => by have := h k hk; have := (Own.ge own17 hs).1; omega
    replace own17 := own17.mono (B' := w.heap.size) hF.size
    replace own_p := own_p.upd0 U6
    replace own_b1 := own_b1.upd0 U6
    replace rd11 := rd11.upd0 U6
    replace h_bp := U6.get0 h_bp
    replace hF := hF.go0 U6
    have zz6 := U6.size
    refine app_introA (e := 5) (size := 1) (bytes := 1) (by kernel_rfl) own_b1 own17.rdS (by first | (simp [vals_length]; done) | (simp [vals_length]; omega)) vals_one (by simp only [vals_length, List.length_take, List.length_cons, List.length_nil, List.length_append, List.length_map, List.length_range]; omega) (by have := hF.size; omega) (fun v7 w7 N7 hA7 U7 => ?_)
    have own_b1_o := own_b1
    have nb7_h_bp := ap_blk (S' := w6) nb4_h_bp h_bp hA7
    have nb7_own_p := ap_own (S' := w6) nb4_own_p own_p hA7
    have nb7_rd11 := ap_rd (S' := w6) nb4_rd11 rd11 hA7
    have nb7_own17 := ap_own (S' := w6) (fun k hk hs => nx6_own_b1_own17 k hs hk) own17 hA7
    replace h_bp := U7.get h_bp nb4_h_bp
    replace own_p := own_p.updS U7 nb4_own_p
    replace own_b1 := N7
    replace rd11 := rd11.updS U7 nb4_rd11
    replace own17 := own17.updS U7 (fun k hk hs => nx6_own_b1_own17 k hs hk)
    replace hF := hF.go U7 (fun i h hs => by first | exact hs | exact .inl hs | exact .inr hs | (have := (Own.ge own_b1_o hs).1; omega))
    have zz7 := U7.size
    clear own_b1_o
    first | exact ⟨_, rfl, by rw [← Gs.allB_T (Gs.fmt_T hp (by assumption))]; assumption, hF⟩ | exact ⟨_, rfl, by rw [← Gs.allB_F (Gs.fmt_F hp (by assumption))]; assumption, hF⟩
  · replace own_p := own_p.upd0 U5
    replace own_b1 := own_b1.upd0 U5
    replace rd11 := rd11.upd0 U5
    replace h_bp := U5.get0 h_bp
    replace hF := hF.go0 U5
    have zz5 := U5.size
    try simp only [decide_eq_true_eq, decide_eq_false_iff_not] at h5
    refine condf ?_
    refine callF_ex (c_rp_whole h_bp own_p rfl hb) (fun v9 w9 D9 => ?_)
    obtain ⟨own21, U9⟩ := D9
    obtain ⟨A21, c21, rfl, _⟩ := own21.rd1
    have nx9_h_bp_own21 : ¬ ownS _ bp := fun h => by have := (Own.ge own21 h).1; have := lt_get h_bp; omega
    have nx9_own_p_own21 : ∀ k, ownS _ k → ¬ ownS _ k := fun k hk hs => by have := (Own.ge own_p hk).2; have := (Own.ge own21 hs).1; omega
    have nx9_own_b1_own21 : ∀ k, ownS _ k → ¬ ownS _ k := fun k hk hs => by have := (Own.ge own_b1 hk).2; have := (Own.ge own21 hs).1; omega
    have nx9_rd11_own21 : _ ∨ ∀ k, _ → ¬ ownS _ k := (rd11.lt).imp_right fun h k hk hs => by have := h k hk; have := (Own.ge own21 hs).1; omega
    replace own21 := own21.mono (B' := w.heap.size) hF.size
    replace own_p := own_p.upd0 U9
    replace own_b1 := own_b1.upd0 U9
    replace rd11 := rd11.upd0 U9
    replace h_bp := U9.get0 h_bp
    replace hF := hF.go0 U9
    have zz9 := U9.size
    refine app_introA (e := 5) (size := 1) (bytes := 1) (by kernel_rfl) own_b1 own21.rdS (by first | (simp [vals_length]; done) | (simp [vals_length]; omega)) vals_one (by simp only [vals_length, List.length_take, List.length_cons, List.length_nil, List.length_append, List.length_map, List.length_range]; omega) (by have := hF.size; omega) (fun v10 w10 N10 hA10 U10 => ?_)
    have own_b1_o := own_b1
    have nb10_h_bp := ap_blk (S' := w9) nb4_h_bp h_bp hA10
    have nb10_own_p := ap_own (S' := w9) nb4_own_p own_p hA10
    have nb10_rd11 := ap_rd (S' := w9) nb4_rd11 rd11 hA10
    have nb10_own21 := ap_own (S' := w9) (fun k hk hs => nx9_own_b1_own21 k hs hk) own21 hA10
    replace h_bp := U10.get h_bp nb4_h_bp
    replace own_p := own_p.updS U10 nb4_own_p
    replace own_b1 := N10
    replace rd11 := rd11.updS U10 nb4_rd11
    replace own21 := own21.updS U10 (fun k hk hs => nx9_own_b1_own21 k hs hk)
    replace hF := hF.go U10 (fun i h hs => by first | exact hs | exact .inl hs | exact .inr hs | (have := (Own.ge own_b1_o hs).1; omega))
    have zz10 := U10.size
    clear own_b1_o
    first | exact ⟨_, rfl, by rw [← Gs.allB_T (Gs.fmt_T hp (by assumption))]; assumption, hF⟩ | exact ⟨_, rfl, by rw [← Gs.allB_F (Gs.fmt_F hp (by assumption))]; assumption, hF⟩

/-- greenscreen/reply.Read -/
theorem c_rp_Read {r c cur : Int} {A : Option Addr} {n cp bp B0 : Nat} {cs : List Gs.Cell} {w : World} (h_bp : w.heap[bp]? = some (.cells #[.int .i64 r, .int .i64 c, .slice A n cp, .int .i64 cur] 57 (0, 0))) (own_p : Own B0 w 35 5 (.slice A n cp) (rows Gs.cv cs)) (hn : n = cs.length) {x : Int} (hp : 0 < n) (hN : Gs.cellsN r c = n) (hb : n ≤ 4096) (hcw : Gs.Cws cs)  :
    Calls Tryz.prog 10 #[.pointer (some ⟨bp, 0, none⟩), .int .u8 x] w fun e w' => ∃ v, e = .returned v ∧ Own w.heap.size w' 5 1 v (vals .u8 (Gs.readB cs cur x)) ∧ Upd no w w' := by
  refine F10.calls ?_
  unfold F10
  have lt_h_bp := lt_get h_bp
  have lt_own_p := Own.lt own_p
  have hF : Upd no w w := Fr.refl _ _ _
  refine callF_bool (c_kb_Short) (fun w1 U1 h1 => ?_) (fun w1 U1 h1 => ?_)
  · replace own_p := own_p.upd0 U1
    replace h_bp := U1.get0 h_bp
    replace hF := hF.go0 U1
    have zz1 := U1.size
    try simp only [decide_eq_true_eq, decide_eq_false_iff_not] at h1
    refine condt ?_
    refine buildSlice_intro (e := 5) (m := 1) (z := #[.int .u8 0]) (by kernel_rfl) (by kernel_rfl) (by rfl) (by decide) (by first | (simp [fillL, splice, repL, Value.cells, Gs.cv, Gs.fv, Gs.ie]; done) | (simp [fillL, splice, repL, Value.cells, Gs.cv, Gs.fv, Gs.ie]; rfl)) (fun b2 w2 e2 h_b2 _ U2 => ?_)
    have ne_bp_b2 : bp ≠ b2 := by have := lt_get h_bp; omega
    have na_own_p_b2 := own_p.apart e2
    have ge_b2 : w.heap.size ≤ b2 := by have := hF.size; omega
    replace own_p := own_p.upd0 U2
    replace h_bp := U2.get0 h_bp
    replace hF := hF.go0 U2
    have zz2 := U2.size
    clear e2
    first | exact ⟨_, rfl, by rw [Gs.readB_T (by assumption)]; exact Own.of_block (n := 1) (xs := [_]) (by assumption) (by omega) rfl (by decide), hF⟩ | exact ⟨_, rfl, by rw [Gs.readB_F (by assumption)]; exact own11, hF⟩
  · replace own_p := own_p.upd0 U1
    replace h_bp := U1.get0 h_bp
    replace hF := hF.go0 U1
    have zz1 := U1.size
    try simp only [decide_eq_true_eq, decide_eq_false_iff_not] at h1
    refine condf ?_
    refine callF_ex (c_rp_All h_bp own_p hn hp hN hb hcw) (fun v4 w4 D4 => ?_)
    obtain ⟨own11, U4⟩ := D4
    obtain ⟨A11, c11, rfl, _⟩ := own11.rd1
    have nx4_h_bp_own11 : ¬ ownS _ bp := fun h => by have := (Own.ge own11 h).1; have := lt_get h_bp; omega
    have nx4_own_p_own11 : ∀ k, ownS _ k → ¬ ownS _ k := fun k hk hs => by have := (Own.ge own_p hk).2; have := (Own.ge own11 hs).1; omega
    replace own11 := own11.mono (B' := w.heap.size) hF.size
    replace own_p := own_p.upd0 U4
    replace h_bp := U4.get0 h_bp
    replace hF := hF.go0 U4
    have zz4 := U4.size
    first | exact ⟨_, rfl, by rw [Gs.readB_T (by assumption)]; exact Own.of_block (n := 1) (xs := [_]) (by assumption) (by omega) rfl (by decide), hF⟩ | exact ⟨_, rfl, by rw [Gs.readB_F (by assumption)]; exact own11, hF⟩

/-- greenscreen/reply.Buffer -/
theorem c_rp_Buffer {r c cur : Int} {A : Option Addr} {n cp bp B0 : Nat} {cs : List Gs.Cell} {w : World} (h_bp : w.heap[bp]? = some (.cells #[.int .i64 r, .int .i64 c, .slice A n cp, .int .i64 cur] 57 (0, 0))) (own_p : Own B0 w 35 5 (.slice A n cp) (rows Gs.cv cs)) (hn : n = cs.length) {x : Int} (hb : n ≤ 4096) (hcw : Gs.Cws cs)  :
    Calls Tryz.prog 14 #[.pointer (some ⟨bp, 0, none⟩), .int .u8 x] w fun e w' => ∃ v, e = .returned v ∧ Own w.heap.size w' 5 1 v (vals .u8 (Gs.bufB cs cur x)) ∧ Upd no w w' := by
  refine F14.calls ?_
  unfold F14
  subst hn
  have lt_h_bp := lt_get h_bp
  have lt_own_p := Own.lt own_p
  have hF : Upd no w w := Fr.refl _ _ _
  refine buildSlice_intro (e := 5) (m := 1) (z := #[.int .u8 0]) (by kernel_rfl) (by kernel_rfl) (by rfl) (by decide) (by first | (simp [fillL, splice, repL, Value.cells, Gs.cv, Gs.fv, Gs.ie]; done) | (simp [fillL, splice, repL, Value.cells, Gs.cv, Gs.fv, Gs.ie]; rfl)) (fun b1 w1 e1 h_b1 _ U1 => ?_)
  have ne_bp_b1 : bp ≠ b1 := by have := lt_get h_bp; omega
  have na_own_p_b1 := own_p.apart e1
  have ge_b1 : w.heap.size ≤ b1 := by have := hF.size; omega
  replace own_p := own_p.upd0 U1
  replace h_bp := U1.get0 h_bp
  replace hF := hF.go0 U1
  have zz1 := U1.size
  clear e1
  have own_b1 := Own.of_block (B := w.heap.size) (n := 1) (xs := vals .u8 [x]) (size := 1) h_b1 ge_b1 rfl (by decide)
  refine callF_val (c_Plane_Cursor h_bp own_p rfl) (fun w2 U2 => ?_)
  replace own_p := own_p.upd0 U2
  replace own_b1 := own_b1.upd0 U2
  replace h_bp := U2.get0 h_bp
  replace hF := hF.go0 U2
  have zz2 := U2.size
  refine callF_ex (c_rp_place h_bp own_p rfl (i := cur)) (fun v3 w3 D3 => ?_)
  obtain ⟨A13, c13, rfl, rd13, gA13, U3⟩ := D3
  have na_rd13_bp := gA13.ne (lt_get h_bp)
  have na_rd13_own_p : _ ∨ ∀ k, _ → ¬ ownS _ k := gA13.imp_right fun h k hk hs => by have := h k hk; have := (Own.ge own_p hs).2; omega
  have na_rd13_own_b1 : _ ∨ ∀ k, _ → ¬ ownS _ k := gA13.imp_right fun h k hk hs => by have := h k hk; have := (Own.ge own_b1 hs).2; omega
  replace own_p := own_p.upd0 U3
  replace own_b1 := own_b1.upd0 U3
  replace h_bp := U3.get0 h_bp
  replace hF := hF.go0 U3
  have zz3 := U3.size
  refine app_introA (e := 5) (size := 1) (bytes := 1) (by kernel_rfl) own_b1 rd13 (by first | (simp [vals_length]; done) | (simp [vals_length]; omega)) vals_one (by simp only [vals_length, List.length_take, List.length_cons, List.length_nil, List.length_append, List.length_map, List.length_range]; omega) (by have := hF.size; omega) (fun v4 w4 N4 hA4 U4 => ?_)
  have own_b1_o := own_b1
  have nb4_h_bp := ap_blk (S' := w3) (fun hs => by cases hs; exact ne_bp_b1 rfl) h_bp hA4
  have nb4_own_p := ap_own (S' := w3) (fun k hk hs => by cases hs; exact na_own_p_b1 _ hk rfl) own_p hA4
  have nb4_rd13 := ap_rd (S' := w3) na_rd13_own_b1 rd13 hA4
  replace h_bp := U4.get h_bp (fun hs => by cases hs; exact ne_bp_b1 rfl)
  replace own_p := own_p.updS U4 (fun k hk hs => by cases hs; exact na_own_p_b1 _ hk rfl)
  replace own_b1 := N4
  replace rd13 := rd13.updS U4 na_rd13_own_b1
  replace hF := hF.go U4 (fun i h hs => by first | exact hs | exact .inl hs | exact .inr hs | (have := (Own.ge own_b1_o hs).1; omega))
  have zz4 := U4.size
  clear own_b1_o
  refine join_cut (fun g w' => ∃ (v5 : Value), (g 5 = v5) ∧ (Own w.heap.size w' 5 1 v5 (vals .u8 (Gs.bufB cs cur x))) ∧ (Upd no w w')) (fun J1 hJ1 => ?_) (fun gJ1 wJ1 hI => ?_)
  · refine callF_val (c_Plane_Len h_bp own_p rfl) (fun w5 U5 => ?_)
    replace own_p := own_p.upd0 U5
    replace own_b1 := own_b1.upd0 U5
    replace rd13 := rd13.upd0 U5
    replace h_bp := U5.get0 h_bp
    replace hF := hF.go0 U5
    have zz5 := U5.size
    refine loop_intro (fun g w' => ∃ (k : Nat) (v5 : Value), (g 17 = .int .i64 (k : Int)) ∧ (k ≤ cs.length) ∧ (g 5 = v5) ∧ (Own w.heap.size w' 5 1 v5 (vals .u8 (Gs.bufK cs cur x k))) ∧ (w'.heap[bp]? = some (.cells #[.int .i64 r, .int .i64 c, .slice A cs.length cp, .int .i64 cur] 57 (0, 0))) ∧ (Own B0 w' 35 5 (.slice A cs.length cp) (rows Gs.cv cs)) ∧ (Upd no w w')) (fun g w' => cs.length - (RowKit.intOf (g 17)).toNat) ?_ (fun g2 wl2 hI => ?_)
    · exact ⟨0, _, (by first | exact g17 | rfl), Nat.zero_le _, rfl, (by show Own _ _ _ _ _ (vals .u8 (Gs.bufK cs cur x 0)); unfold Gs.bufK; rw [List.take_zero, List.flatMap_nil, List.append_nil]; assumption), h_bp, own_p, hF⟩
    · obtain ⟨k, v5, g17, hk, g5, own5, h_bp, own_p, hF⟩ := hI
      try rw [g17]
      try rw [g5]
      have hbk := Gs.bufK_len cs cur x k
      refine opv_dec (lss _ _ _ _) (fun h6 => ?_) (fun h6 => ?_)
      · refine condt ?_
        refine join_cut (fun g w' => ∃ (v5 : Value), (g 5 = v5) ∧ (Own w.heap.size w' 5 1 v5 (vals .u8 (Gs.bufK cs cur x (k + 1)))) ∧ (w'.heap[bp]? = some (.cells #[.int .i64 r, .int .i64 c, .slice A cs.length cp, .int .i64 cur] 57 (0, 0))) ∧ (Own B0 w' 35 5 (.slice A cs.length cp) (rows Gs.cv cs)) ∧ (Upd no w w')) (fun J3 hJ3 => ?_) (fun gJ3 wJ3 hI => ?_)
        · refine callF_val (c_Plane_At h_bp own_p rfl (i := (k : Int))) (fun w7 U7 => ?_)
          replace own5 := own5.upd0 U7
          replace own_p := own_p.upd0 U7
          replace h_bp := U7.get0 h_bp
          replace hF := hF.go0 U7
          have zz7 := U7.size
          refine alloc_intro (cs := (Gs.cv Gs.zc).toArray) (by kernel_rfl) (fun b8 w8 e8 h_b8 _ U8 => ?_)
          have na_own5_b8 := own5.apart e8
          have ne_bp_b8 : bp ≠ b8 := by have := lt_get h_bp; omega
          have na_own_p_b8 := own_p.apart e8
          have ge_b8 : w.heap.size ≤ b8 := by have := hF.size; omega
          replace own5 := own5.upd0 U8
          replace own_p := own_p.upd0 U8
          replace h_bp := U8.get0 h_bp
          replace hF := hF.go0 U8
          have zz8 := U8.size
          clear e8
          refine store_intro (n := 5) (cs' := (Gs.cv (Gs.getC cs k)).toArray) (by kernel_rfl) (by rfl) (by first | rfl | (simp [Value.cells, Value.oneCell', Gs.cv, Gs.fv, Gs.ie]; done)) h_b8 (by first | exact Nat.le_of_ble_eq_true rfl | (simp; done) | omega) (by rfl) (fun w9 N9 _ U9 => ?_)
          replace own5 := own5.upd1 U9 na_own5_b8
          replace own_p := own_p.upd1 U9 na_own_p_b8
          replace h_bp := U9.get1 h_bp ne_bp_b8
          replace h_b8 := N9
          replace hF := hF.go1 U9 ge_b8
          have zz9 := U9.size
          refine opv_run (fieldAt_eq (off := 2) (by kernel_rfl)) ?_
          refine opv_b (ldC (by kernel_rfl) h_b8 (by rfl)) (fun h10 => ?_) (fun h10 => ?_)
          · refine condt ?_
            refine opv_run (fieldAt_eq (off := 0) (by kernel_rfl)) ?_
            refine opv_run (ldC (by kernel_rfl) h_b8 (by rfl)) ?_
            refine callF_val (c_attr_Byte (Gs.getC_w hcw k)) (fun w11 U11 => ?_)
            replace own5 := own5.upd0 U11
            replace own_p := own_p.upd0 U11
            replace h_bp := U11.get0 h_bp
            replace h_b8 := U11.get0 h_b8
            replace hF := hF.go0 U11
            have zz11 := U11.size
            refine buildSlice_intro (e := 5) (m := 1) (z := #[.int .u8 0]) (by kernel_rfl) (by kernel_rfl) (by rfl) (by decide) (by first | (simp [fillL, splice, repL, Value.cells, Gs.cv, Gs.fv, Gs.ie]; done) | (simp [fillL, splice, repL, Value.cells, Gs.cv, Gs.fv, Gs.ie]; rfl)) (fun b12 w12 e12 h_b12 _ U12 => ?_)
            have na_own5_b12 := own5.apart e12
            have ne_bp_b12 : bp ≠ b12 := by have := lt_get h_bp; omega
            have na_own_p_b12 := own_p.apart e12
            have ne_b8_b12 : b8 ≠ b12 := by have := lt_get h_b8; omega
            have ge_b12 : w.heap.size ≤ b12 := by have := hF.size; omega
            replace own5 := own5.upd0 U12
            replace own_p := own_p.upd0 U12
            replace h_bp := U12.get0 h_bp
            replace h_b8 := U12.get0 h_b8
            replace hF := hF.go0 U12
            have zz12 := U12.size
            clear e12
            refine app_introA (e := 5) (size := 1) (bytes := 1) (by kernel_rfl) own5 (Rd.of_blockL h_b12) rfl (by first | (simp [Value.oneCell']; done) | (intro u hu; simp only [List.mem_singleton] at hu; subst hu; rfl) | (simp; intros; subst_vars; rfl)) (by simp only [vals_length, List.length_take, List.length_cons, List.length_nil, List.length_append, List.length_map, List.length_range]; omega) (by have := hF.size; omega) (fun v13 w13 N13 hA13 U13 => ?_)
            have own5_o := own5
            have nc13_b8 : ∀ k, ownS v13 k → k ≠ b8 := fun k hk e => Or.elim (hA13 k hk) (fun h => na_own5_b8 k h e) (fun h => by have := lt_get h_b8; omega)
            have nc13_b12 : ∀ k, ownS v13 k → k ≠ b12 := fun k hk e => Or.elim (hA13 k hk) (fun h => na_own5_b12 k h e) (fun h => by have := lt_get h_b12; omega)
            replace own5 := N13
            replace h_bp := U13.get h_bp (fun h => by first | (have := Own.ge own5_o h; omega) | exact Own.ne_blk own5_o h_bp (by decide) _ h rfl | exact Own.not_loop own5_o h_bp (by assumption) _ h rfl | exact Own.not_def own5_o h_bp _ h rfl | simp_all)
            replace own_p := own_p.updS U13 (fun k hk hs => by have := lt_own_p k hk; have := (Own.ge own5_o hs).1; omega)
            replace h_b8 := U13.get h_b8 (fun h => na_own5_b8 _ h rfl)
            replace h_b12 := U13.get h_b12 (fun h => na_own5_b12 _ h rfl)
            replace hF := hF.go U13 (fun i h hs => by first | exact hs | exact .inl hs | exact .inr hs | (have := (Own.ge own5_o hs).1; omega))
            have zz13 := U13.size
            clear own5_o
            refine hJ3 _ _ ?_
            exact ⟨_, (by first | exact g5 | rfl), (by first | (rw [← Gs.bufK_T (by omega) (by assumption), ← vals_append]; exact own5) | (rw [← Gs.bufK_F (by omega) (by assumption), ← vals_append]; exact own5)), h_bp, own_p, hF⟩
          · refine condf ?_
            refine opv_run (ldA (n := 5) (cs' := (Gs.cv (Gs.getC cs k)).toArray) (by kernel_rfl) h_b8 (by first | exact Nat.le_of_ble_eq_true rfl | (simp; done) | omega) (by rfl)) ?_
            refine callF_ex (c_rp_bytes) (fun v14 w14 D14 => ?_)
            obtain ⟨own33, U14⟩ := D14
            obtain ⟨A33, c33, rfl, _⟩ := own33.rd1
            have nx14_own5_own33 : ∀ k, ownS _ k → ¬ ownS _ k := fun k hk hs => by have := (Own.ge own5 hk).2; have := (Own.ge own33 hs).1; omega
            have nx14_h_bp_own33 : ¬ ownS _ bp := fun h => by have := (Own.ge own33 h).1; have := lt_get h_bp; omega
            have nx14_own_p_own33 : ∀ k, ownS _ k → ¬ ownS _ k := fun k hk hs => by have := (Own.ge own_p hk).2; have := (Own.ge own33 hs).1; omega
            have nx14_h_b8_own33 : ¬ ownS _ b8 := fun h => by have := (Own.ge own33 h).1; have := lt_get h_b8; omega
            replace own33 := own33.mono (B' := w.heap.size) hF.size
            replace own5 := own5.upd0 U14
            replace own_p := own_p.upd0 U14
            replace h_bp := U14.get0 h_bp
            replace h_b8 := U14.get0 h_b8
            replace hF := hF.go0 U14
            have zz14 := U14.size
            have hbl2 := Gs.bytes_len (Gs.getC cs k)
            refine app_introA (e := 5) (size := 1) (bytes := 1) (by kernel_rfl) own5 own33.rdS (by first | (simp [vals_length]; done) | (simp [vals_length]; omega)) vals_one (by simp only [vals_length, List.length_take, List.length_cons, List.length_nil, List.length_append, List.length_map, List.length_range]; omega) (by have := hF.size; omega) (fun v15 w15 N15 hA15 U15 => ?_)
            have own5_o := own5
            have nb15_own33 := ap_own (S' := w14) (fun k hk hs => nx14_own5_own33 k hs hk) own33 hA15
            have nc15_b8 : ∀ k, ownS v15 k → k ≠ b8 := fun k hk e => Or.elim (hA15 k hk) (fun h => na_own5_b8 k h e) (fun h => by have := lt_get h_b8; omega)
            replace own5 := N15
            replace h_bp := U15.get h_bp (fun h => by first | (have := Own.ge own5_o h; omega) | exact Own.ne_blk own5_o h_bp (by decide) _ h rfl | exact Own.not_loop own5_o h_bp (by assumption) _ h rfl | exact Own.not_def own5_o h_bp _ h rfl | simp_all)
            replace own_p := own_p.updS U15 (fun k hk hs => by have := lt_own_p k hk; have := (Own.ge own5_o hs).1; omega)
            replace h_b8 := U15.get h_b8 (fun h => na_own5_b8 _ h rfl)
            replace own33 := own33.updS U15 (fun k hk hs => nx14_own5_own33 k hs hk)
            replace hF := hF.go U15 (fun i h hs => by first | exact hs | exact .inl hs | exact .inr hs | (have := (Own.ge own5_o hs).1; omega))
            have zz15 := U15.size
            clear own5_o
            refine hJ3 _ _ ?_
            exact ⟨_, (by first | exact g5 | rfl), (by first | (rw [← Gs.bufK_T (by omega) (by assumption), ← vals_append]; exact own5) | (rw [← Gs.bufK_F (by omega) (by assumption), ← vals_append]; exact own5)), h_bp, own_p, hF⟩
        · obtain ⟨v5, g5, own5, h_bp, own_p, hF⟩ := hI
          try rw [g5]
          first | refine opv_run (add_i64 _ (by omega)) ?_ | refine opv_run (addI _ _ _ _) ?_
          exact ⟨⟨k + 1, _, (by first | exact g17 | rfl), by omega, (by first | exact g5 | rfl), own5, h_bp, own_p, hF⟩, cnt_lt (by first | rfl | exact g17) rfl (by omega)⟩
      · refine condf ?_
        refine hJ1 _ _ ?_
        exact ⟨_, (by first | exact g5 | rfl), (by rw [← Gs.bufK_end, show cs.length = k by omega]; exact own5), hF⟩
  · obtain ⟨v5, g5, own5, hF⟩ := hI
    try rw [g5]
    exact ⟨_, rfl, own5, hF⟩

end Go.Proofs.YtkjkmahpkfbbnaaGreatDoor
