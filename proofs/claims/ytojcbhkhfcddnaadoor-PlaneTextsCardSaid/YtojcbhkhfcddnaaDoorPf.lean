/-
  Contracts of functions of the program, walked over their shallow forms. No condition but the ones that each states.
-/
import Derived.Test.YtojcbhkhfcddnaaDoorPe
import Derived.Test.YtojcbhkhfcddnaaDoorPlaneFind
namespace Go.Proofs.YtojcbhkhfcddnaaDoor
open Go Go.Sh
set_option linter.unusedVariables false
set_option maxRecDepth 100000


/-- (*strings.Builder).Cap -/
theorem c_Builder_Cap {b n c : Nat} {p : Value} {A : Option Addr} {w : World} (h_b : w.heap[b]? = some (.cells #[p, .slice A n c] 89 (0, 0))) :
    Calls Tryd.prog 53 #[.pointer (some ⟨b, 0, none⟩)] w fun e w' => e = .returned (.int .i64 c) ∧ Upd no w w' := by
  refine F53.calls ?_
  unfold F53
  have lt_h_b := lt_get h_b
  have hF : Upd no w w := Fr.refl _ _ _
  refine nilckp ?_
  refine opv_run (fieldAt_eq (off := 1) (by kernel_rfl)) ?_
  refine opv_run (ldC (by kernel_rfl) h_b (by rfl)) ?_
  refine opv_run (cap_sl (by kernel_rfl) _ _ _) ?_
  exact ⟨rfl, hF⟩

/-- strings.ToValidUTF8 -/
theorem c_ToValid_signs {w : World} {t : ByteArray} {l : List Int} (hl : ∀ x ∈ l, Gs.Sgn x) (hls : l.length ≤ 20000) :
    Calls Tryd.prog 39 #[.string (runesBytes l), .string t] w fun e w' => e = .returned (.string (runesBytes l)) ∧ Upd no w w' := by
  refine F39.calls ?_
  unfold F39
  have hsz := runesBytes_size_le l
  have hru := Gs.runes_signs hl
  have hF : Upd no w w := Fr.refl _ _ _
  refine alloc_intro (cs := #[.pointer none, .slice none 0 0]) (by kernel_rfl) (fun b1 w1 e1 h_b1 _ U1 => ?_)
  have ge_b1 : w.heap.size ≤ b1 := by have := hF.size; omega
  replace hF := hF.go0 U1
  clear e1
  refine join_cut (fun g w' => (g 0 = .string (runesBytes l)) ∧ (w'.heap[b1]? = some (.cells #[.pointer none, .slice none 0 0] 89 (0, 0))) ∧ (Upd no w w')) (fun J1 hJ1 => ?_) (fun gJ1 wJ1 hI => ?_)
  · refine range_str (by kernel_rfl) (fun b2 w2 e2 h_b2 _ U2 => ?_)
    have ne_b1_b2 : b1 ≠ b2 := by have := lt_get h_b1; omega
    have ge_b2 : w.heap.size ≤ b2 := by have := hF.size; omega
    replace h_b1 := U2.get0 h_b1
    replace hF := hF.go0 U2
    clear e2
    refine loop_intro (fun g w' => ∃ (pos : Nat), (g 0 = .string (runesBytes l)) ∧ (w'.heap[b2]? = some (.stringIter (runesBytes l) pos)) ∧ (w'.heap[b1]? = some (.cells #[.pointer none, .slice none 0 0] 89 (0, 0))) ∧ (∀ r ∈ Gs.runesAt (runesBytes l) pos, Gs.Sgn r) ∧ (Upd no w w')) (fun g w' => (runesBytes l).size - iterP w' b2) ?_ (fun g2 wl2 hI => ?_)
    · exact ⟨0, (by first | exact g0 | rfl), h_b2, h_b1, (by have h0 := hl; rw [← hru] at h0; exact h0), hF⟩
    · obtain ⟨pos, g0, h_b2, h_b1, hsub, hF⟩ := hI
      try rw [g0]
      have it0 := h_b2
      refine next_str h_b2 ?_ ?_
      · intro h3 w3 N3 _ U3
        replace h_b2 := N3
        replace h_b1 := U3.get1 h_b1 ne_b1_b2
        replace hF := hF.go1 U3 ge_b2
        refine opv_run (ext_t (by rfl)) ?_
        refine condt ?_
        refine opv_run (ext_t (by rfl)) ?_
        refine opv_run (ext_t (by rfl)) ?_
        have hs1 := hsub _ (by rw [Gs.runesAt_step (by assumption)]; exact List.mem_cons_self)
        have hs2 : ((Utf8.decode (runesBytes l) pos).1 : Int) ≠ 65533 := by rcases hs1 with h | h <;> omega
        refine opv_T (neI _ _ _ _ _) (hs2) ?_
        refine condt ?_
        exact ⟨⟨_, (by first | exact g0 | rfl), h_b2, h_b1, (fun r hr => hsub r (by rw [Gs.runesAt_step (by assumption)]; exact List.mem_cons_of_mem _ hr)), hF⟩, meas_iter it0 h_b2 (by have := Gs.width_pos (runesBytes l) pos (by assumption); omega) (by assumption)⟩
      · intro h4
        refine opv_run (ext_t (by rfl)) ?_
        refine condf ?_
        refine hJ1 _ _ ?_
        exact ⟨(by first | exact g0 | rfl), h_b1, hF⟩
  · obtain ⟨g0, h_b1, hF⟩ := hI
    try rw [g0]
    refine callF_val (c_Builder_Cap h_b1) (fun w5 U5 => ?_)
    replace h_b1 := U5.get0 h_b1
    replace hF := hF.go0 U5
    refine opv_T (eqI _ _ _ _ _) (rfl) ?_
    refine condt ?_
    exact ⟨rfl, hF⟩

/-- greenscreen/greenscreenref14.Find -/
theorem c_greenscreenref14_Find {r c cur : Int} {A : Option Addr} {n cp : Nat} {cs : List Gs.Cell} {w : World} (rd1 : Rd w A (rows Gs.cv cs)) (hn : n = cs.length) {page : Int} (hcw : Gs.Cws cs) {l : List Int} (hl : ∀ x ∈ l, Gs.Sgn x) (hls : l.length ≤ 20000) (hb : n ≤ 4096) :
    Calls Tryd.prog 26 #[.agg #[.int .i64 r, .int .i64 c, .slice A n cp, .int .i64 cur], .int .i64 page, .string (runesBytes l)] w fun e w' => e = .returned (.int .i64 (Gs.findL page cs l)) ∧ Upd no w w' := by
  refine F26.calls ?_
  unfold F26
  have hsz := runesBytes_size_le l
  have hru := Gs.runes_signs hl
  have lt_rd1 := Rd.lt rd1
  have hF : Upd no w w := Fr.refl _ _ _
  refine box_intro (by rfl) (fun b1 w1 e1 h_b1 _ U1 => ?_)
  have na_rd1_b1 := rd1.apart e1
  have ge_b1 : w.heap.size ≤ b1 := by have := hF.size; omega
  replace rd1 := rd1.upd0 U1
  replace hF := hF.go0 U1
  clear e1
  refine join_cut (fun g w' => (g 7 = .int .i64 (l.length : Nat)) ∧ (w'.heap[b1]? = some (.cells #[.int .i64 r, .int .i64 c, .slice A n cp, .int .i64 cur] 32 (0, 0))) ∧ (Rd w' A (rows Gs.cv cs)) ∧ (Upd no w w')) (fun J1 hJ1 => ?_) (fun gJ1 wJ1 hI => ?_)
  · refine range_str (by kernel_rfl) (fun b2 w2 e2 h_b2 _ U2 => ?_)
    have na_rd1_b2 := rd1.apart e2
    have ne_b1_b2 : b1 ≠ b2 := by have := lt_get h_b1; omega
    have ge_b2 : w.heap.size ≤ b2 := by have := hF.size; omega
    replace rd1 := rd1.upd0 U2
    replace h_b1 := U2.get0 h_b1
    replace hF := hF.go0 U2
    clear e2
    refine loop_intro (fun g w' => ∃ (pos cnt : Nat), (g 7 = .int .i64 (cnt : Nat)) ∧ (w'.heap[b2]? = some (.stringIter (runesBytes l) pos)) ∧ (cnt + (Gs.runesAt (runesBytes l) pos).length = l.length) ∧ (w'.heap[b1]? = some (.cells #[.int .i64 r, .int .i64 c, .slice A n cp, .int .i64 cur] 32 (0, 0))) ∧ (Rd w' A (rows Gs.cv cs)) ∧ (Upd no w w')) (fun g w' => (runesBytes l).size - iterP w' b2) ?_ (fun g2 wl2 hI => ?_)
    · exact ⟨0, 0, (by first | exact g7 | rfl), h_b2, (by rw [Nat.zero_add]; exact congrArg List.length hru), h_b1, rd1, hF⟩
    · obtain ⟨pos, cnt, g7, h_b2, hcnt, h_b1, rd1, hF⟩ := hI
      try rw [g7]
      have it0 := h_b2
      refine next_str h_b2 ?_ ?_
      · intro h3 w3 N3 _ U3
        replace rd1 := rd1.upd1 U3 na_rd1_b2
        replace h_b2 := N3
        replace h_b1 := U3.get1 h_b1 ne_b1_b2
        replace hF := hF.go1 U3 ge_b2
        refine opv_run (ext_t (by rfl)) ?_
        refine condt ?_
        first | refine opv_run (add_i64 _ (by omega)) ?_ | refine opv_run (addI _ _ _ _) ?_
        exact ⟨⟨_, cnt + 1, (by first | exact g7 | rfl), h_b2, (by rw [Gs.runesAt_step (by assumption)] at hcnt; simp only [List.length_cons] at hcnt; omega), h_b1, rd1, hF⟩, meas_iter it0 h_b2 (by have := Gs.width_pos (runesBytes l) pos (by assumption); omega) (by assumption)⟩
      · intro h4
        refine opv_run (ext_t (by rfl)) ?_
        refine condf ?_
        refine hJ1 _ _ ?_
        exact ⟨(by rw [show cnt = l.length by (have := Gs.runesAt_end (by assumption : ¬ pos < _); rw [this] at hcnt; simpa using hcnt)] at g7; exact g7), h_b1, rd1, hF⟩
  · obtain ⟨g7, h_b1, rd1, hF⟩ := hI
    try rw [g7]
    refine opv_dec (eqI _ _ _ _ _) (fun h5 => ?_) (fun h5 => ?_)
    · refine condt ?_
      first | exact ⟨retI (Gs.find_0 (by omega)).symm, hF⟩ | exact ⟨retI (Gs.find_long (by omega) (by omega)).symm, hF⟩ | exact ⟨retI (Gs.find_none (by omega) (by omega) hno).symm, hF⟩ | exact ⟨retI (Gs.find_at (by omega) (by omega) hno (by omega) ((Gs.sgn_inj (Gs.sgl_sgn hcw k l.length) hl).1 (by rw [← Gs.text_signs (by omega) (by omega)]; assumption))).symm, hF⟩
    · refine condf ?_
      refine opv_run (fieldAt_eq (off := 2) (by kernel_rfl)) ?_
      refine opv_run (ldC (by kernel_rfl) h_b1 (by rfl)) ?_
      refine opv_run (len_sl (by kernel_rfl) _ _ _) ?_
      refine opv_dec (gtr _ _ _ _) (fun h7 => ?_) (fun h7 => ?_)
      · refine condt ?_
        first | exact ⟨retI (Gs.find_0 (by omega)).symm, hF⟩ | exact ⟨retI (Gs.find_long (by omega) (by omega)).symm, hF⟩ | exact ⟨retI (Gs.find_none (by omega) (by omega) hno).symm, hF⟩ | exact ⟨retI (Gs.find_at (by omega) (by omega) hno (by omega) ((Gs.sgn_inj (Gs.sgl_sgn hcw k l.length) hl).1 (by rw [← Gs.text_signs (by omega) (by omega)]; assumption))).symm, hF⟩
      · refine condf ?_
        refine join_cut (fun g w' => (Gs.noneTo page cs l cs.length) ∧ (Upd no w w')) (fun J3 hJ3 => ?_) (fun gJ3 wJ3 hI => ?_)
        · refine loop_intro (fun g w' => ∃ (k : Nat), (g 8 = .int .i64 (k : Int)) ∧ (k ≤ cs.length) ∧ (Gs.noneTo page cs l k) ∧ (w'.heap[b1]? = some (.cells #[.int .i64 r, .int .i64 c, .slice A n cp, .int .i64 cur] 32 (0, 0))) ∧ (Rd w' A (rows Gs.cv cs)) ∧ (Upd no w w')) (fun g w' => cs.length - (RowKit.intOf (g 8)).toNat) ?_ (fun g4 wl4 hI => ?_)
          · exact ⟨0, (by first | exact g8 | rfl), Nat.zero_le _, (Gs.none_0 _ _ _), h_b1, rd1, hF⟩
          · obtain ⟨k, g8, hk, hno, h_b1, rd1, hF⟩ := hI
            try rw [g8]
            refine opv_run (fieldAt_eq (off := 2) (by kernel_rfl)) ?_
            refine opv_run (ldC (by kernel_rfl) h_b1 (by rfl)) ?_
            refine opv_run (len_sl (by kernel_rfl) _ _ _) ?_
            refine opv_dec (lss _ _ _ _) (fun h9 => ?_) (fun h9 => ?_)
            · refine condt ?_
              refine opv_run (ldA (n := 4) (by kernel_rfl) h_b1 (by first | exact Nat.le_of_ble_eq_true rfl | (simp; done) | omega) (by rfl)) ?_
              refine callF_val (c_greenscreenref14_Text rd1 hn hcw hb (f := (k : Int)) (m := (l.length : Nat))) (fun w10 U10 => ?_)
              replace rd1 := rd1.upd0 U10
              replace h_b1 := U10.get0 h_b1
              replace hF := hF.go0 U10
              refine opv_dec (eqS _ _ _ _) (fun h11 => ?_) (fun h11 => ?_)
              · refine condt ?_
                first | exact ⟨retI (Gs.find_0 (by omega)).symm, hF⟩ | exact ⟨retI (Gs.find_long (by omega) (by omega)).symm, hF⟩ | exact ⟨retI (Gs.find_none (by omega) (by omega) hno).symm, hF⟩ | exact ⟨retI (Gs.find_at (by omega) (by omega) hno (by omega) ((Gs.sgn_inj (Gs.sgl_sgn hcw k l.length) hl).1 (by rw [← Gs.text_signs (by omega) (by omega)]; assumption))).symm, hF⟩
              · refine condf ?_
                first | refine opv_run (add_i64 _ (by omega)) ?_ | refine opv_run (addI _ _ _ _) ?_
                exact ⟨⟨k + 1, (by first | exact g8 | rfl), by omega, (Gs.none_step hno (fun he => by have h5 := (Gs.sgn_inj (Gs.sgl_sgn hcw k l.length) hl).2 he; rw [← Gs.text_signs (by omega) (by omega)] at h5; exact absurd h5 (by assumption))), h_b1, rd1, hF⟩, cnt_lt (by first | rfl | exact g8) rfl (by omega)⟩
            · refine condf ?_
              refine hJ3 _ _ ?_
              exact ⟨(by rw [show cs.length = k by omega]; exact hno), hF⟩
        · obtain ⟨hno, hF⟩ := hI
          first | exact ⟨retI (Gs.find_0 (by omega)).symm, hF⟩ | exact ⟨retI (Gs.find_long (by omega) (by omega)).symm, hF⟩ | exact ⟨retI (Gs.find_none (by omega) (by omega) hno).symm, hF⟩ | exact ⟨retI (Gs.find_at (by omega) (by omega) hno (by omega) ((Gs.sgn_inj (Gs.sgl_sgn hcw k l.length) hl).1 (by rw [← Gs.text_signs (by omega) (by omega)]; assumption))).symm, hF⟩

/-- (*greenscreen/plane.Plane).Find -/
theorem c_Plane_Find {r c cur : Int} {A : Option Addr} {n cp bp B0 : Nat} {cs : List Gs.Cell} {w : World} (h_bp : w.heap[bp]? = some (.cells #[.int .i64 r, .int .i64 c, .slice A n cp, .int .i64 cur] 66 (0, 0))) (own_p : Own B0 w 36 5 (.slice A n cp) (rows Gs.cv cs)) (hn : n = cs.length) {page : Int} (hcw : Gs.Cws cs) {l : List Int} (hl : ∀ x ∈ l, Gs.Sgn x) (hls : l.length ≤ 20000) (hp : 0 < n) (hb : n ≤ 4096) :
    Calls Tryd.prog 25 #[.pointer (some ⟨bp, 0, none⟩), .int .i64 page, .string (runesBytes l)] w fun e w' => e = .returned (.int .i64 (Gs.findL page cs l)) ∧ Upd no w w' := by
  refine F25.calls ?_
  unfold F25
  have hsz := runesBytes_size_le l
  have hru := Gs.runes_signs hl
  have hrs := Gs.runesFrom_size (runesBytes l)
  have hrf := Gs.runesFrom_runes (runesBytes l)
  rw [hru] at hrs hrf
  subst hn
  have hsl := Gs.sgl_len page cs 0 cs.length
  have lt_h_bp := lt_get h_bp
  have lt_own_p := Own.lt own_p
  have hF : Upd no w w := Fr.refl _ _ _
  refine nilckp ?_
  refine opv_run (fieldAt_eq (off := 2) (by kernel_rfl)) ?_
  refine opv_run (ldC (by kernel_rfl) h_bp (by rfl)) ?_
  refine opv_run (len_sl (by kernel_rfl) _ _ _) ?_
  refine callF_ex (c_Plane_signs h_bp own_p rfl (f := 0) (m := cs.length) hcw hp hb (by omega) (by omega) hb) (fun v1 w1 D1 => ?_)
  obtain ⟨own18, U1⟩ := D1
  have nx1_h_bp_own18 : ¬ ownS _ bp := fun h => by have := (Own.ge own18 h).1; have := lt_get h_bp; omega
  have nx1_own_p_own18 : ∀ k, ownS _ k → ¬ ownS _ k := fun k hk hs => by have := (Own.ge own_p hk).2; have := (Own.ge own18 hs).1; omega
  replace own18 := own18.mono (B' := w.heap.size) hF.size
  replace own_p := own_p.upd0 U1
  replace h_bp := U1.get0 h_bp
  replace hF := hF.go0 U1
  obtain ⟨A18, c18, rfl, _⟩ := own18.rd1
  rw [hsl]
  refine convSR (e := 21) (by kernel_rfl) (by kernel_rfl) (by kernel_rfl) (by omega) (fun A2 c2 w2 rd2 gA2 U2 => ?_)
  have na_rd2_bp := gA2.ne (lt_get h_bp)
  have na_rd2_own_p : _ ∨ ∀ k, _ → ¬ ownS _ k := gA2.imp_right fun h k hk hs => by have := h k hk; have := (Own.ge own_p hs).2; omega
  have na_rd2_own18 : _ ∨ ∀ k, _ → ¬ ownS _ k := gA2.imp_right fun h k hk hs => by have := h k hk; have := (Own.ge own18 hs).2; omega
  replace own_p := own_p.upd0 U2
  replace own18 := own18.upd0 U2
  replace h_bp := U2.get0 h_bp
  replace hF := hF.go0 U2
  rw [hrs]
  rw [hrf] at rd2
  refine opv_run (len_sl (by kernel_rfl) _ _ _) ?_
  refine opv_dec (eqI _ _ _ _ _) (fun h3 => ?_) (fun h3 => ?_)
  · refine condt ?_
    first | exact ⟨retI (Gs.find_0 (by omega)).symm, hF⟩ | exact ⟨retI (Gs.find_long (by omega) (by omega)).symm, hF⟩ | exact ⟨retI (Gs.find_none (by omega) (by omega) hno).symm, hF⟩ | exact ⟨retI (Gs.find_at (by omega) (by omega) hno (by omega) (by assumption)).symm, hF⟩
  · refine condf ?_
    refine opv_run (len_sl (by kernel_rfl) _ _ _) ?_
    refine opv_run (len_sl (by kernel_rfl) _ _ _) ?_
    refine opv_dec (gtr _ _ _ _) (fun h5 => ?_) (fun h5 => ?_)
    · refine gdtf ?_
      refine gdtf ?_
      refine gdtf ?_
      refine gdtf ?_
      refine pickt ?_
      refine condt ?_
      first | exact ⟨retI (Gs.find_0 (by omega)).symm, hF⟩ | exact ⟨retI (Gs.find_long (by omega) (by omega)).symm, hF⟩ | exact ⟨retI (Gs.find_none (by omega) (by omega) hno).symm, hF⟩ | exact ⟨retI (Gs.find_at (by omega) (by omega) hno (by omega) (by assumption)).symm, hF⟩
    · refine gdff ?_
      refine gdff ?_
      refine callF_val (c_ToValid_signs hl hls) (fun w7 U7 => ?_)
      replace own_p := own_p.upd0 U7
      replace own18 := own18.upd0 U7
      replace rd2 := rd2.upd0 U7
      replace h_bp := U7.get0 h_bp
      replace hF := hF.go0 U7
      refine gdff ?_
      refine gdff ?_
      refine opv_F (neS _ _ _ _) (fun hne => hne rfl) ?_
      refine pickf ?_
      refine condf ?_
      have rd18 := own18.rdS
      rw [hsl] at own18
      rw [hrf, hsl] at na_rd2_own18
      rw [hsl] at nx1_h_bp_own18 nx1_own_p_own18
      refine app_intro (e := 21) (size := 1) (bytes := 4) (by kernel_rfl) own18 rd18 (by simp [vals_length, hsl]) vals_one (by simp only [vals_length, Gs.sgl_len]; omega) (by have := hF.size; omega) (fun v8 w8 N8 U8 => ?_)
      have own18_o := own18
      replace h_bp := U8.get h_bp nx1_h_bp_own18
      replace own_p := own_p.updS U8 nx1_own_p_own18
      replace own18 := N8
      replace rd2 := rd2.updS U8 na_rd2_own18
      replace hF := hF.go U8 (fun i h hs => by first | exact hs | exact .inl hs | exact .inr hs | (have := (Own.ge own18_o hs).1; omega))
      clear own18_o
      rw [vals_append] at own18
      obtain ⟨A37, c37, rfl, rd37⟩ := own18.rd1
      have hcap := own18.le_cap
      have hll : ((Gs.sgl page cs 0 cs.length) ++ (Gs.sgl page cs 0 cs.length)).length = cs.length + cs.length := by rw [List.length_append, hsl]
      refine join_cut (fun g w' => (Gs.noneTo page cs l cs.length) ∧ (Upd no w w')) (fun J1 hJ1 => ?_) (fun gJ1 wJ1 hI => ?_)
      · refine opv_run (len_sl (by kernel_rfl) _ _ _) ?_
        refine loop_intro (fun g w' => ∃ (k : Nat), (g 40 = .int .i64 (k : Int)) ∧ (k ≤ cs.length) ∧ (Gs.noneTo page cs l k) ∧ (Rd w' A37 (vals .i32 ((Gs.sgl page cs 0 cs.length) ++ (Gs.sgl page cs 0 cs.length)))) ∧ (Rd w' A2 (vals .i32 l)) ∧ (Upd no w w')) (fun g w' => cs.length - (RowKit.intOf (g 40)).toNat) ?_ (fun g2 wl2 hI => ?_)
        · exact ⟨0, (by first | exact g40 | rfl), Nat.zero_le _, (Gs.none_0 _ _ _), rd37, rd2, hF⟩
        · obtain ⟨k, g40, hk, hno, rd37, rd2, hF⟩ := hI
          try rw [g40]
          refine opv_dec (lss _ _ _ _) (fun h9 => ?_) (fun h9 => ?_)
          · refine condt ?_
            refine opv_run (len_sl (by kernel_rfl) _ _ _) ?_
            first | refine opv_run (add_i64 _ (by omega)) ?_ | refine opv_run (addI _ _ _ _) ?_
            refine slice1 (by kernel_rfl) rd37 (by first | rfl | assumption | omega | (simp [vals_length, *]; done)) (by omega) (by omega) (by omega) hcap (fun A10 c10 rd10 => ?_)
            rw [show ((k : Int) + (l.length : Nat)).toNat - (k : Int).toNat = l.length by omega] at rd10
            rw [show (k : Int).toNat = k by omega, Gs.sgl_twice (by omega) (by omega)] at rd10
            rw [show ((k : Int) + (l.length : Nat)).toNat - (k : Int).toNat = l.length by omega]
            refine callF_bool (c_slices_EqualR rd10 (by rw [Gs.sgl_len]) rd2 rfl (by omega)) (fun w11 U11 h11 => ?_) (fun w11 U11 h11 => ?_)
            · replace rd37 := rd37.upd0 U11
              replace rd2 := rd2.upd0 U11
              replace rd10 := rd10.upd0 U11
              replace hF := hF.go0 U11
              try simp only [decide_eq_true_eq, decide_eq_false_iff_not] at h11
              refine condt ?_
              first | exact ⟨retI (Gs.find_0 (by omega)).symm, hF⟩ | exact ⟨retI (Gs.find_long (by omega) (by omega)).symm, hF⟩ | exact ⟨retI (Gs.find_none (by omega) (by omega) hno).symm, hF⟩ | exact ⟨retI (Gs.find_at (by omega) (by omega) hno (by omega) (by assumption)).symm, hF⟩
            · replace rd37 := rd37.upd0 U11
              replace rd2 := rd2.upd0 U11
              replace rd10 := rd10.upd0 U11
              replace hF := hF.go0 U11
              try simp only [decide_eq_true_eq, decide_eq_false_iff_not] at h11
              refine condf ?_
              first | refine opv_run (add_i64 _ (by omega)) ?_ | refine opv_run (addI _ _ _ _) ?_
              exact ⟨⟨k + 1, (by first | exact g40 | rfl), by omega, (Gs.none_step hno (by assumption)), rd37, rd2, hF⟩, cnt_lt (by first | rfl | exact g40) rfl (by omega)⟩
          · refine condf ?_
            refine hJ1 _ _ ?_
            exact ⟨(by rw [show cs.length = k by omega]; exact hno), hF⟩
      · obtain ⟨hno, hF⟩ := hI
        first | exact ⟨retI (Gs.find_0 (by omega)).symm, hF⟩ | exact ⟨retI (Gs.find_long (by omega) (by omega)).symm, hF⟩ | exact ⟨retI (Gs.find_none (by omega) (by omega) hno).symm, hF⟩ | exact ⟨retI (Gs.find_at (by omega) (by omega) hno (by omega) (by assumption)).symm, hF⟩

end Go.Proofs.YtojcbhkhfcddnaaDoor
