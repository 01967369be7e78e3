/-
  Contracts of functions of the program, walked over their shallow forms. No condition but the ones that each states.
-/
import Derived.Test.YtjdoakbadehicaaGreatDoorRay
namespace Go.Proofs.YtjdoakbadehicaaGreatDoor
open Go Go.Sh
set_option linter.unusedVariables false
set_option maxRecDepth 100000


/-- greenscreen/reply.All -/
theorem c_rp_All {r c cur : Int} {A : Option Addr} {n cp bp B0 : Nat} {cs : List Gs.Cell} {w : World} (h_bp : w.heap[bp]? = some (.cells #[.int .i64 r, .int .i64 c, .slice A n cp, .int .i64 cur] 91 (0, 0))) (own_p : Own B0 w 37 5 (.slice A n cp) (rows Gs.cv cs)) (hn : n = cs.length) {x : Int} (hp : 0 < n) (hN : Gs.cellsN r c = n) (hb : n ≤ 4096) (hcw : Gs.Cws cs)  :
    Calls Tryz.prog 55 #[.pointer (some ⟨bp, 0, none⟩), .int .u8 x] w fun e w' => ∃ v, e = .returned v ∧ Own w.heap.size w' 5 1 v (vals .u8 (Gs.allB cs cur x)) ∧ Upd no w w' := by
  refine F55.calls ?_
  unfold F55
  subst hn
  have hwl := Gs.full_len cs (Gs.placesA cs)
  rw [Gs.placesA_len] at hwl
  have hoe := Gs.outF_lenE hb
  have lt_h_bp := lt_get h_bp
  have lt_own_p := Own.lt own_p
  have hF : Upd no w w := Fr.refl _ _ _
  refine buildSlice_intro (e := 5) (m := 1) (z := #[.int .u8 0]) (by kernel_rfl) (by kernel_rfl) (by rfl) (by decide) (by first | (simp [fillL, splice, repL, Value.cells, Gs.cv, Gs.fv, Gs.ie]; done) | (simp [fillL, splice, repL, Value.cells, Gs.cv, Gs.fv, Gs.ie]; rfl)) (fun b1 w1 e1 h_b1 _ U1 => ?_)
  have ne_bp_b1 : bp ≠ b1 := by have := lt_get h_bp; omega
  have na_own_p_b1 := own_p.apart e1
  have ge_b1 : w.heap.size ≤ b1 := by have := hF.size; omega
  replace own_p := own_p.upd0 U1
  replace h_bp := U1.get0 h_bp
  replace hF := hF.go0 U1
  have zz1 := U1.size
  clear e1
  have own_b1 := Own.of_block (B := w.heap.size) (n := 1) (xs := vals .u8 [x]) (size := 1) h_b1 ge_b1 rfl (by decide)
  refine callF_val (c_Plane_Cursor h_bp own_p rfl) (fun w2 U2 => ?_)
  replace own_p := own_p.upd0 U2
  replace own_b1 := own_b1.upd0 U2
  replace h_bp := U2.get0 h_bp
  replace hF := hF.go0 U2
  have zz2 := U2.size
  refine callF_ex (c_rp_place h_bp own_p rfl (i := cur)) (fun v3 w3 D3 => ?_)
  obtain ⟨A11, c11, rfl, rd11, gA11, U3⟩ := D3
  have na_rd11_bp := gA11.ne (lt_get h_bp)
  have na_rd11_own_p : _ ∨ ∀ k, _ → ¬ ownS _ k := gA11.imp_right fun h k hk hs => by have := h k hk; have := (Own.ge own_p hs).2; omega
  have na_rd11_own_b1 : _ ∨ ∀ k, _ → ¬ ownS _ k := gA11.imp_right fun h k hk hs => by have := h k hk; have := (Own.ge own_b1 hs).2; omega
  replace own_p := own_p.upd0 U3
  replace own_b1 := own_b1.upd0 U3
  replace h_bp := U3.get0 h_bp
  replace hF := hF.go0 U3
  have zz3 := U3.size
  refine app_introA (e := 5) (size := 1) (bytes := 1) (by kernel_rfl) own_b1 rd11 (by first | (simp [vals_length]; done) | (simp [vals_length]; omega)) vals_one (by simp only [vals_length, List.length_take, List.length_cons, List.length_nil, List.length_append, List.length_map, List.length_range]; omega) (by have := hF.size; omega) (fun v4 w4 N4 hA4 U4 => ?_)
  have own_b1_o := own_b1
  have nb4_h_bp := ap_blk (S' := w3) (fun hs => by cases hs; exact ne_bp_b1 rfl) h_bp hA4
  have nb4_own_p := ap_own (S' := w3) (fun k hk hs => by cases hs; exact na_own_p_b1 _ hk rfl) own_p hA4
  have nb4_rd11 := ap_rd (S' := w3) na_rd11_own_b1 rd11 hA4
  replace h_bp := U4.get h_bp (fun hs => by cases hs; exact ne_bp_b1 rfl)
  replace own_p := own_p.updS U4 (fun k hk hs => by cases hs; exact na_own_p_b1 _ hk rfl)
  replace own_b1 := N4
  replace rd11 := rd11.updS U4 na_rd11_own_b1
  replace hF := hF.go U4 (fun i h hs => by first | exact hs | exact .inl hs | exact .inr hs | (have := (Own.ge own_b1_o hs).1; omega))
  have zz4 := U4.size
  clear own_b1_o
  refine callF_bool (c_field_Formatted h_bp own_p rfl hN hb) (fun w5 U5 h5 => ?_) (fun w5 U5 h5 => ?_)
  · replace own_p := own_p.upd0 U5
    replace own_b1 := own_b1.upd0 U5
    replace rd11 := rd11.upd0 U5
    replace h_bp := U5.get0 h_bp
    replace hF := hF.go0 U5
    have zz5 := U5.size
    try simp only [decide_eq_true_eq, decide_eq_false_iff_not] at h5
    refine condt ?_
    refine callF_ex (c_rp_fields h_bp own_p rfl hN hb hcw) (fun v6 w6 D6 => ?_)
    obtain ⟨own17, U6⟩ := D6
    obtain ⟨A17, c17, rfl, _⟩ := own17.rd1
    have nx6_h_bp_own17 : ¬ ownS _ bp := fun h => by have := (Own.ge own17 h).1; have := lt_get h_bp; omega
    have nx6_own_p_own17 : ∀ k, ownS _ k → ¬ ownS _ k := fun k hk hs => by have := (Own.ge own_p hk).2; have := (Own.ge own17 hs).1; omega
    have nx6_own_b1_own17 : ∀ k, ownS _ k → ¬ ownS _ k := fun k hk hs => by have := (Own.ge own_b1 hk).2; have := (Own.ge own17 hs).1; omega
    have nx6_rd11_own17 : _ ∨ ∀ k, _ → ¬ ownS _ k := (rd11.lt).imp_right fun h k hk hs => by have := h k hk; have := (Own.ge own17 hs).1; omega
    replace own17 := own17.mono (B' := w.heap.size) hF.size
    replace own_p := own_p.upd0 U6
    replace own_b1 := own_b1.upd0 U6
    replace rd11 := rd11.upd0 U6
    replace h_bp := U6.get0 h_bp
    replace hF := hF.go0 U6
    have zz6 := U6.size
    refine app_introA (e := 5) (size := 1) (bytes := 1) (by kernel_rfl) own_b1 own17.rdS (by first | (simp [vals_length]; done) | (simp [vals_length]; omega)) vals_one (by simp only [vals_length, List.length_take, List.length_cons, List.length_nil, List.length_append, List.length_map, List.length_range]; omega) (by have := hF.size; omega) (fun v7 w7 N7 hA7 U7 => ?_)
    have own_b1_o := own_b1
    have nb7_h_bp := ap_blk (S' := w6) nb4_h_bp h_bp hA7
    have nb7_own_p := ap_own (S' := w6) nb4_own_p own_p hA7
    have nb7_rd11 := ap_rd (S' := w6) nb4_rd11 rd11 hA7
    have nb7_own17 := ap_own (S' := w6) (fun k hk hs => nx6_own_b1_own17 k hs hk) own17 hA7
    replace h_bp := U7.get h_bp nb4_h_bp
    replace own_p := own_p.updS U7 nb4_own_p
    replace own_b1 := N7
    replace rd11 := rd11.updS U7 nb4_rd11
    replace own17 := own17.updS U7 (fun k hk hs => nx6_own_b1_own17 k hs hk)
    replace hF := hF.go U7 (fun i h hs => by first | exact hs | exact .inl hs | exact .inr hs | (have := (Own.ge own_b1_o hs).1; omega))
    have zz7 := U7.size
    clear own_b1_o
    first | exact ⟨_, rfl, by rw [← Gs.allB_T (Gs.fmt_T hp (by assumption))]; assumption, hF⟩ | exact ⟨_, rfl, by rw [← Gs.allB_F (Gs.fmt_F hp (by assumption))]; assumption, hF⟩
  · replace own_p := own_p.upd0 U5
    replace own_b1 := own_b1.upd0 U5
    replace rd11 := rd11.upd0 U5
    replace h_bp := U5.get0 h_bp
    replace hF := hF.go0 U5
    have zz5 := U5.size
    try simp only [decide_eq_true_eq, decide_eq_false_iff_not] at h5
    refine condf ?_
    refine callF_ex (c_rp_whole h_bp own_p rfl hb) (fun v9 w9 D9 => ?_)
    obtain ⟨own21, U9⟩ := D9
    obtain ⟨A21, c21, rfl, _⟩ := own21.rd1
    have nx9_h_bp_own21 : ¬ ownS _ bp := fun h => by have := (Own.ge own21 h).1; have := lt_get h_bp; omega
    have nx9_own_p_own21 : ∀ k, ownS _ k → ¬ ownS _ k := fun k hk hs => by have := (Own.ge own_p hk).2; have := (Own.ge own21 hs).1; omega
    have nx9_own_b1_own21 : ∀ k, ownS _ k → ¬ ownS _ k := fun k hk hs => by have := (Own.ge own_b1 hk).2; have := (Own.ge own21 hs).1; omega
    have nx9_rd11_own21 : _ ∨ ∀ k, _ → ¬ ownS _ k := (rd11.lt).imp_right fun h k hk hs => by have := h k hk; have := (Own.ge own21 hs).1; omega
    replace own21 := own21.mono (B' := w.heap.size) hF.size
    replace own_p := own_p.upd0 U9
    replace own_b1 := own_b1.upd0 U9
    replace rd11 := rd11.upd0 U9
    replace h_bp := U9.get0 h_bp
    replace hF := hF.go0 U9
    have zz9 := U9.size
    refine app_introA (e := 5) (size := 1) (bytes := 1) (by kernel_rfl) own_b1 own21.rdS (by first | (simp [vals_length]; done) | (simp [vals_length]; omega)) vals_one (by simp only [vals_length, List.length_take, List.length_cons, List.length_nil, List.length_append, List.length_map, List.length_range]; omega) (by have := hF.size; omega) (fun v10 w10 N10 hA10 U10 => ?_)
    have own_b1_o := own_b1
    have nb10_h_bp := ap_blk (S' := w9) nb4_h_bp h_bp hA10
    have nb10_own_p := ap_own (S' := w9) nb4_own_p own_p hA10
    have nb10_rd11 := ap_rd (S' := w9) nb4_rd11 rd11 hA10
    have nb10_own21 := ap_own (S' := w9) (fun k hk hs => nx9_own_b1_own21 k hs hk) own21 hA10
    replace h_bp := U10.get h_bp nb4_h_bp
    replace own_p := own_p.updS U10 nb4_own_p
    replace own_b1 := N10
    replace rd11 := rd11.updS U10 nb4_rd11
    replace own21 := own21.updS U10 (fun k hk hs => nx9_own_b1_own21 k hs hk)
    replace hF := hF.go U10 (fun i h hs => by first | exact hs | exact .inl hs | exact .inr hs | (have := (Own.ge own_b1_o hs).1; omega))
    have zz10 := U10.size
    clear own_b1_o
    first | exact ⟨_, rfl, by rw [← Gs.allB_T (Gs.fmt_T hp (by assumption))]; assumption, hF⟩ | exact ⟨_, rfl, by rw [← Gs.allB_F (Gs.fmt_F hp (by assumption))]; assumption, hF⟩

/-- greenscreen/reply.Read -/
theorem c_rp_Read {r c cur : Int} {A : Option Addr} {n cp bp B0 : Nat} {cs : List Gs.Cell} {w : World} (h_bp : w.heap[bp]? = some (.cells #[.int .i64 r, .int .i64 c, .slice A n cp, .int .i64 cur] 91 (0, 0))) (own_p : Own B0 w 37 5 (.slice A n cp) (rows Gs.cv cs)) (hn : n = cs.length) {x : Int} (hp : 0 < n) (hN : Gs.cellsN r c = n) (hb : n ≤ 4096) (hcw : Gs.Cws cs)  :
    Calls Tryz.prog 20 #[.pointer (some ⟨bp, 0, none⟩), .int .u8 x] w fun e w' => ∃ v, e = .returned v ∧ Own w.heap.size w' 5 1 v (vals .u8 (Gs.readB cs cur x)) ∧ Upd no w w' := by
  refine F20.calls ?_
  unfold F20
  have lt_h_bp := lt_get h_bp
  have lt_own_p := Own.lt own_p
  have hF : Upd no w w := Fr.refl _ _ _
  refine callF_bool (c_kb_Short) (fun w1 U1 h1 => ?_) (fun w1 U1 h1 => ?_)
  · replace own_p := own_p.upd0 U1
    replace h_bp := U1.get0 h_bp
    replace hF := hF.go0 U1
    have zz1 := U1.size
    try simp only [decide_eq_true_eq, decide_eq_false_iff_not] at h1
    refine condt ?_
    refine buildSlice_intro (e := 5) (m := 1) (z := #[.int .u8 0]) (by kernel_rfl) (by kernel_rfl) (by rfl) (by decide) (by first | (simp [fillL, splice, repL, Value.cells, Gs.cv, Gs.fv, Gs.ie]; done) | (simp [fillL, splice, repL, Value.cells, Gs.cv, Gs.fv, Gs.ie]; rfl)) (fun b2 w2 e2 h_b2 _ U2 => ?_)
    have ne_bp_b2 : bp ≠ b2 := by have := lt_get h_bp; omega
    have na_own_p_b2 := own_p.apart e2
    have ge_b2 : w.heap.size ≤ b2 := by have := hF.size; omega
    replace own_p := own_p.upd0 U2
    replace h_bp := U2.get0 h_bp
    replace hF := hF.go0 U2
    have zz2 := U2.size
    clear e2
    first | exact ⟨_, rfl, by rw [Gs.readB_T (by assumption)]; exact Own.of_block (n := 1) (xs := [_]) (by assumption) (by omega) rfl (by decide), hF⟩ | exact ⟨_, rfl, by rw [Gs.readB_F (by assumption)]; exact own11, hF⟩
  · replace own_p := own_p.upd0 U1
    replace h_bp := U1.get0 h_bp
    replace hF := hF.go0 U1
    have zz1 := U1.size
    try simp only [decide_eq_true_eq, decide_eq_false_iff_not] at h1
    refine condf ?_
    refine callF_ex (c_rp_All h_bp own_p hn hp hN hb hcw) (fun v4 w4 D4 => ?_)
    obtain ⟨own11, U4⟩ := D4
    obtain ⟨A11, c11, rfl, _⟩ := own11.rd1
    have nx4_h_bp_own11 : ¬ ownS _ bp := fun h => by have := (Own.ge own11 h).1; have := lt_get h_bp; omega
    have nx4_own_p_own11 : ∀ k, ownS _ k → ¬ ownS _ k := fun k hk hs => by have := (Own.ge own_p hk).2; have := (Own.ge own11 hs).1; omega
    replace own11 := own11.mono (B' := w.heap.size) hF.size
    replace own_p := own_p.upd0 U4
    replace h_bp := U4.get0 h_bp
    replace hF := hF.go0 U4
    have zz4 := U4.size
    first | exact ⟨_, rfl, by rw [Gs.readB_T (by assumption)]; exact Own.of_block (n := 1) (xs := [_]) (by assumption) (by omega) rfl (by decide), hF⟩ | exact ⟨_, rfl, by rw [Gs.readB_F (by assumption)]; exact own11, hF⟩

end Go.Proofs.YtjdoakbadehicaaGreatDoor
