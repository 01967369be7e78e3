/-
  Contracts of functions of the program, walked over their shallow forms. No condition but the ones that each states.
-/
import Derived.Test.YtojcbhkhfcddnaaDoorPm
import Derived.Test.YtojcbhkhfcddnaaDoorPlaneFindG
import Derived.Test.YtojcbhkhfcddnaaDoorBldB
namespace Go.Proofs.YtojcbhkhfcddnaaDoor
open Go Go.Sh
set_option linter.unusedVariables false
set_option maxRecDepth 100000

theorem c_Decode {s : ByteArray} {w : World} (hT : Lib.Utf8Tabs 0 1 w) : Calls Tryd.prog 50 #[.string s] w fun e w' => e = .returned (.tuple #[.int .i32 ((Lib.decodeGo s).1 : Nat), .int .i64 ((Lib.decodeGo s).2 : Nat)]) ∧ Upd no w w' :=
  (Tryd.utf8_DecodeRuneInString s w hT).mono fun e w' h => ⟨h.1, Fr.of_below h.2⟩

/-- strings.ToValidUTF8 -/
theorem c_ToValid_ok {s t : ByteArray} {w : World} (hv : Gs.valid s) (hs : s.size ≤ 100000) (hT : Lib.Utf8Tabs 0 1 w) :
    Calls Tryd.prog 39 #[.string s, .string t] w fun e w' => e = .returned (.string s) ∧ Upd no w w' := by
  refine F39.calls ?_
  unfold F39
  have hF : Upd no w w := Fr.refl _ _ _
  refine alloc_intro (cs := #[.pointer none, .slice none 0 0]) (by kernel_rfl) (fun b1 w1 e1 h_b1 _ U1 => ?_)
  have ge_b1 : w.heap.size ≤ b1 := by have := hF.size; omega
  replace hF := hF.go0 U1
  clear e1
  refine join_cut (fun g w' => (g 0 = .string s) ∧ (w'.heap[b1]? = some (.cells #[.pointer none, .slice none 0 0] 89 (0, 0))) ∧ (Upd no w w')) (fun J1 hJ1 => ?_) (fun gJ1 wJ1 hI => ?_)
  · refine range_str (by kernel_rfl) (fun b2 w2 e2 h_b2 _ U2 => ?_)
    have ne_b1_b2 : b1 ≠ b2 := by have := lt_get h_b1; omega
    have ge_b2 : w.heap.size ≤ b2 := by have := hF.size; omega
    replace h_b1 := U2.get0 h_b1
    replace hF := hF.go0 U2
    clear e2
    refine loop_intro (fun g w' => ∃ (pos : Nat), (g 0 = .string s) ∧ (w'.heap[b2]? = some (.stringIter s pos)) ∧ (w'.heap[b1]? = some (.cells #[.pointer none, .slice none 0 0] 89 (0, 0))) ∧ (Gs.okFrom s pos) ∧ (Upd no w w')) (fun g w' => s.size - iterP w' b2) ?_ (fun g2 wl2 hI => ?_)
    · exact ⟨0, (by first | exact g0 | rfl), h_b2, h_b1, hv, hF⟩
    · obtain ⟨pos, g0, h_b2, h_b1, hvp, hF⟩ := hI
      try rw [g0]
      have it0 := h_b2
      refine next_str h_b2 ?_ ?_
      · intro h3 w3 N3 _ U3
        replace h_b1 := U3.get1 h_b1 ne_b1_b2
        replace h_b2 := N3
        replace hF := hF.go1 U3 ge_b2
        refine opv_run (ext_t (by rfl)) ?_
        refine condt ?_
        refine opv_run (ext_t (by rfl)) ?_
        refine opv_run (ext_t (by rfl)) ?_
        refine opv_dec (neI _ _ _ _ _) (fun h5 => ?_) (fun h5 => ?_)
        · refine condt ?_
          exact ⟨⟨_, (by first | exact g0 | rfl), h_b2, h_b1, ((Gs.ok_step (by assumption) (fun hb => Gs.ok_bad (by assumption) hb hvp)).1 hvp), hF⟩, meas_iter it0 h_b2 (by have := Gs.width_pos s pos (by assumption); omega) (by assumption)⟩
        · refine condf ?_
          refine opv_run (sliceSL (by kernel_rfl) (by omega) (by omega)) ?_
          refine callF_val (c_Decode (Gs.tabs_up hT hF)) (fun w6 U6 => ?_)
          replace h_b2 := U6.get0 h_b2
          replace h_b1 := U6.get0 h_b1
          replace hF := hF.go0 U6
          rw [show ((pos : Int)).toNat = pos from rfl, Gs.go_at (by assumption)]
          refine opv_run (ext_t (by rfl)) ?_
          refine opv_run (ext_t (by rfl)) ?_
          refine opv_F (eqI _ _ _ _ _) (fun h1 => Gs.ok_bad (by assumption) ⟨by omega, by omega⟩ hvp) ?_
          refine condf ?_
          exact ⟨⟨_, (by first | exact g0 | rfl), h_b2, h_b1, ((Gs.ok_step (by assumption) (fun hb => Gs.ok_bad (by assumption) hb hvp)).1 hvp), hF⟩, meas_iter it0 h_b2 (by have := Gs.width_pos s pos (by assumption); omega) (by assumption)⟩
      · intro h4
        refine opv_run (ext_t (by rfl)) ?_
        refine condf ?_
        refine hJ1 _ _ ?_
        exact ⟨(by first | exact g0 | rfl), h_b1, hF⟩
  · obtain ⟨g0, h_b1, hF⟩ := hI
    try rw [g0]
    refine callF_val (c_Builder_Cap h_b1) (fun w7 U7 => ?_)
    replace h_b1 := U7.get0 h_b1
    replace hF := hF.go0 U7
    refine opv_T (eqI _ _ _ _ _) (rfl) ?_
    refine condt ?_
    exact ⟨rfl, hF⟩

set_option maxHeartbeats 1600000 in
/-- strings.ToValidUTF8 -/
theorem c_ToValid_bad {s : ByteArray} {w : World} (hv : ¬ Gs.valid s) (hs : s.size ≤ 100000) (hT : Lib.Utf8Tabs 0 1 w) :
    Calls Tryd.prog 39 #[.string s, .string ⟨#[]⟩] w fun e w' => ∃ v, e = .returned v ∧ ∃ s' : ByteArray, v = .string s' ∧ s'.size < s.size ∧ Upd no w w' := by
  refine F39.calls ?_
  unfold F39
  have he0 : ((⟨#[]⟩ : ByteArray).size) = 0 := rfl
  have hF : Upd no w w := Fr.refl _ _ _
  refine alloc_intro (cs := #[.pointer none, .slice none 0 0]) (by kernel_rfl) (fun b1 w1 e1 h_b1 _ U1 => ?_)
  have ge_b1 : w.heap.size ≤ b1 := by have := hF.size; omega
  replace hF := hF.go0 U1
  clear e1
  refine join_cut (fun g w' => ∃ (pos : Nat) (v5 : Value), (g 0 = .string (s.extract pos s.size)) ∧ (Bld w.heap.size w' b1 v5 (Lib.byteCells (s.extract 0 pos).data.toList)) ∧ (Roomy v5) ∧ (pos < s.size ∧ Gs.badAt s pos) ∧ (Upd no w w')) (fun J1 hJ1 => ?_) (fun gJ1 wJ1 hI => ?_)
  · refine range_str (by kernel_rfl) (fun b2 w2 e2 h_b2 _ U2 => ?_)
    have ne_b1_b2 : b1 ≠ b2 := by have := lt_get h_b1; omega
    have ge_b2 : w.heap.size ≤ b2 := by have := hF.size; omega
    replace h_b1 := U2.get0 h_b1
    replace hF := hF.go0 U2
    clear e2
    refine loop_intro (fun g w' => ∃ (pos : Nat), (g 0 = .string s) ∧ (w'.heap[b2]? = some (.stringIter s pos)) ∧ (w'.heap[b1]? = some (.cells #[.pointer none, .slice none 0 0] 89 (0, 0))) ∧ (¬ Gs.okFrom s pos) ∧ (Upd no w w')) (fun g w' => s.size - iterP w' b2) ?_ (fun g2 wl2 hI => ?_)
    · exact ⟨0, (by first | exact g0 | rfl), h_b2, h_b1, hv, hF⟩
    · obtain ⟨pos, g0, h_b2, h_b1, hvp, hF⟩ := hI
      try rw [g0]
      have it0 := h_b2
      refine next_str h_b2 ?_ ?_
      · intro h3 w3 N3 _ U3
        replace h_b1 := U3.get1 h_b1 ne_b1_b2
        replace h_b2 := N3
        replace hF := hF.go1 U3 ge_b2
        refine opv_run (ext_t (by rfl)) ?_
        refine condt ?_
        refine opv_run (ext_t (by rfl)) ?_
        refine opv_run (ext_t (by rfl)) ?_
        refine opv_dec (neI _ _ _ _ _) (fun h5 => ?_) (fun h5 => ?_)
        · refine condt ?_
          exact ⟨⟨_, (by first | exact g0 | rfl), h_b2, h_b1, (by refine fun hn => hvp ((Gs.ok_step (by assumption) (fun hb => ?_)).2 hn); obtain ⟨hb1, hb2⟩ := hb; omega), hF⟩, meas_iter it0 h_b2 (by have := Gs.width_pos s pos (by assumption); omega) (by assumption)⟩
        · refine condf ?_
          refine opv_run (sliceSL (by kernel_rfl) (by omega) (by omega)) ?_
          refine callF_val (c_Decode (Gs.tabs_up hT hF)) (fun w6 U6 => ?_)
          replace h_b2 := U6.get0 h_b2
          replace h_b1 := U6.get0 h_b1
          replace hF := hF.go0 U6
          rw [show ((pos : Int)).toNat = pos from rfl, Gs.go_at (by assumption)]
          refine opv_run (ext_t (by rfl)) ?_
          refine opv_run (ext_t (by rfl)) ?_
          refine opv_dec (eqI _ _ _ _ _) (fun h7 => ?_) (fun h7 => ?_)
          · refine condt ?_
            refine opv_run (len_str (by kernel_rfl) _) ?_
            refine opv_run (len_str (by kernel_rfl) _) ?_
            first | refine opv_run (add_i64 _ (by omega)) ?_ | refine opv_run (addI _ _ _ _) ?_
            rw [show ((s.size : Nat) : Int) + (((⟨#[]⟩ : ByteArray).size : Nat) : Int) = ((s.size : Nat) : Int) from by rw [he0]; exact Int.add_zero _]
            refine callF_ex (c_Grow (n := s.size) (B := w.heap.size) h_b1 ge_b1 ⟨by omega, by omega⟩) (fun x8 w8 D8 => ?_)
            obtain ⟨v5, bld5, hroom, U8⟩ := D8
            replace hF := hF.trans U8
            refine opv_run (sliceSH (by kernel_rfl) (by omega) (by omega)) ?_
            refine callF_ex (c_WriteString_room bld5 hroom (by simp) (by rw [ByteArray.size_extract]; omega) (by have := hF.size; omega)) (fun x9 w9 D9 => ?_)
            have bld5_o := bld5
            obtain ⟨v5, bld5, hroom, U9⟩ := D9
            replace hF := hF.go U9 (fun i h hs => Or.elim hs (fun e => by subst e; omega) (fun h => by have := Bld.ge bld5_o h; omega))
            clear bld5_o
            refine opv_run (sliceSL (by kernel_rfl) (by omega) (by omega)) ?_
            refine hJ1 _ _ ?_
            first | exact absurd (Gs.ok_end (by assumption)) hvp | exact ⟨pos, v5, rfl, (by simpa using bld5), hroom, ⟨by assumption, ⟨by omega, by omega⟩⟩, hF⟩
          · refine condf ?_
            exact ⟨⟨_, (by first | exact g0 | rfl), h_b2, h_b1, (by refine fun hn => hvp ((Gs.ok_step (by assumption) (fun hb => ?_)).2 hn); obtain ⟨hb1, hb2⟩ := hb; omega), hF⟩, meas_iter it0 h_b2 (by have := Gs.width_pos s pos (by assumption); omega) (by assumption)⟩
      · intro h4
        refine opv_run (ext_t (by rfl)) ?_
        refine condf ?_
        refine hJ1 _ _ ?_
        first | exact absurd (Gs.ok_end (by assumption)) hvp | exact ⟨pos, v5, rfl, (by simpa using bld5), hroom, ⟨by assumption, ⟨by omega, by omega⟩⟩, hF⟩
  · obtain ⟨pos, v5, g0, bld5, hroom, hpos, hF⟩ := hI
    try rw [g0]
    obtain ⟨hps, hbd⟩ := hpos
    have hes := Gs.ext_size (s := s) (pos := pos) (by omega)
    refine callF_ex (c_Cap bld5 hroom) (fun x10 w10 D10 => ?_)
    obtain ⟨cc, rfl, hc1, U10⟩ := D10
    replace bld5 := bld5.upd0 U10
    replace hF := hF.go0 U10
    refine opv_F (eqI _ _ _ _ _) (by omega) ?_
    refine condf ?_
    refine join_cut (fun g w' => ∃ (v5 : Value) (l : List UInt8), (Bld w.heap.size w' b1 v5 (Lib.byteCells l)) ∧ (l.length + 1 ≤ s.size) ∧ (Upd no w w')) (fun J3 hJ3 => ?_) (fun gJ3 wJ3 hI => ?_)
    · refine loop_intro (fun g w' => ∃ (i : Nat) (q : Bool) (v5 : Value) (l : List UInt8), (g 11 = .int .i64 (i : Nat)) ∧ (g 10 = .bool q) ∧ (Bld w.heap.size w' b1 v5 (Lib.byteCells l)) ∧ (i ≤ s.size - pos) ∧ ((i = 0 ∧ l.length = pos) ∨ (1 ≤ i ∧ l.length + 1 ≤ pos + i)) ∧ (Upd no w w')) (fun g w' => (s.size - pos) - (RowKit.intOf (g 11)).toNat) ?_ (fun g4 wl4 hI => ?_)
      · exact ⟨0, _, _, _, rfl, rfl, bld5, (by omega), (.inl ⟨rfl, Gs.ext_list (by omega) (by omega)⟩), hF⟩
      · obtain ⟨i, q, v5, l, g11, g10, bld5, hi, hl, hF⟩ := hI
        try rw [g11]
        try rw [g10]
        refine opv_run (len_str (by kernel_rfl) _) ?_
        refine opv_dec (lss _ _ _ _) (fun h11 => ?_) (fun h11 => ?_)
        · refine condt ?_
          refine index_str (by kernel_rfl) (by omega) (by first | assumption | omega) (fun x12 hx12 => ?_)
          try simp only [Int.toNat_natCast] at hx12
          have hb12 := x12.toNat_lt
          have hbg : i = 0 → 128 ≤ x12.toNat := Gs.bad_first hps hbd hx12
          refine opv_dec (lss _ _ _ _) (fun h13 => ?_) (fun h13 => ?_)
          · refine condt ?_
            first | refine opv_run (add_i64 _ (by omega)) ?_ | refine opv_run (addI _ _ _ _) ?_
            refine callF_ex (c_WriteByteU bld5 (by omega) (by have := hF.size; omega)) (fun x14 w14 D14 => ?_)
            have bld5_o := bld5
            obtain ⟨v5, bld5, U14⟩ := D14
            replace hF := hF.go U14 (fun i h hs => Or.elim hs (fun e => by subst e; omega) (fun h => by have := Bld.ge bld5_o h; omega))
            clear bld5_o
            exact ⟨⟨i + 1, _, _, _, (congrArg (Value.int .i64) (by omega)), rfl, bld5, by omega, (by rw [List.length_append]; simp only [List.length_cons, List.length_nil]; omega), hF⟩, Gs.cnt_lt2 (by first | exact g11 | rfl) rfl (by omega) (by omega)⟩
          · refine condf ?_
            refine opv_run (sliceSL (by kernel_rfl) (by omega) (by omega)) ?_
            refine callF_val (c_Decode (Gs.tabs_up hT hF)) (fun w15 U15 => ?_)
            replace bld5 := bld5.upd0 U15
            replace hF := hF.go0 U15
            obtain ⟨rn, hrn, hwi, hwl, hwp⟩ := Gs.dec_pair hps hbd (i := i) (by omega)
            rw [show ((i : Int)).toNat = i from rfl, hrn]
            clear hrn
            refine opv_run (ext_t (by rfl)) ?_
            refine opv_run (ext_t (by rfl)) ?_
            refine opv_dec (eqI _ _ _ _ _) (fun h16 => ?_) (fun h16 => ?_)
            · refine condt ?_
              first | refine opv_run (add_i64 _ (by omega)) ?_ | refine opv_run (addI _ _ _ _) ?_
              refine join_cut (fun g w' => ∃ (q2 : Bool) (v5 : Value), (g 10 = .bool q2) ∧ (Bld w.heap.size w' b1 v5 (Lib.byteCells l)) ∧ (Upd no w w')) (fun J5 hJ5 => ?_) (fun gJ5 wJ5 hI => ?_)
              · refine opv_run (notB _) ?_
                refine cond_intro (fun h17 => ?_) (fun h17 => ?_)
                · try simp only [decide_eq_true_eq, decide_eq_false_iff_not] at h17
                  refine callF_ex (c_WriteString bld5 (by omega) (by decide) (by have := hF.size; omega)) (fun x18 w18 D18 => ?_)
                  have bld5_o := bld5
                  obtain ⟨v5, bld5, U18⟩ := D18
                  replace hF := hF.go U18 (fun i h hs => Or.elim hs (fun e => by subst e; omega) (fun h => by have := Bld.ge bld5_o h; omega))
                  clear bld5_o
                  refine hJ5 _ _ ?_
                  exact ⟨_, _, (by first | rfl | exact g10), (by simpa using bld5), hF⟩
                · try simp only [decide_eq_true_eq, decide_eq_false_iff_not] at h17
                  refine hJ5 _ _ ?_
                  exact ⟨_, _, (by first | rfl | exact g10), (by simpa using bld5), hF⟩
              · obtain ⟨q2, v5, g10, bld5, hF⟩ := hI
                try rw [g10]
                exact ⟨⟨i + 1, _, _, _, (congrArg (Value.int .i64) (by omega)), g10, bld5, by omega, (by omega), hF⟩, Gs.cnt_lt2 (by first | exact g11 | rfl) rfl (by omega) (by omega)⟩
            · refine condf ?_
              first | refine opv_run (add_i64 _ (by omega)) ?_ | refine opv_run (addI _ _ _ _) ?_
              refine opv_run (sliceSB (by kernel_rfl) (by omega) (by omega) (by omega)) ?_
              have hcl : ((s.extract pos s.size).extract ((i : Nat) : Int).toNat (((i : Nat) : Int) + ((rn.2 : Nat) : Int)).toNat).data.toList.length = (i + rn.2) - i := Gs.ext_list (s := (s.extract pos s.size)) (a := i) (b := i + rn.2) (by omega) (by omega)
              refine callF_ex (c_WriteString bld5 (by omega) (by rw [ByteArray.size_extract]; omega) (by have := hF.size; omega)) (fun x19 w19 D19 => ?_)
              have bld5_o := bld5
              obtain ⟨v5, bld5, U19⟩ := D19
              replace hF := hF.go U19 (fun i h hs => Or.elim hs (fun e => by subst e; omega) (fun h => by have := Bld.ge bld5_o h; omega))
              clear bld5_o
              first | refine opv_run (add_i64 _ (by omega)) ?_ | refine opv_run (addI _ _ _ _) ?_
              exact ⟨⟨i + rn.2, _, _, _, (congrArg (Value.int .i64) (by omega)), rfl, bld5, by omega, (by rw [List.length_append, hcl]; omega), hF⟩, Gs.cnt_lt2 (by first | exact g11 | rfl) rfl (by omega) (by omega)⟩
        · refine condf ?_
          refine hJ3 _ _ ?_
          exact ⟨_, _, bld5, (by omega), hF⟩
    · obtain ⟨v5, l, bld5, hl, hF⟩ := hI
      refine callF_val (c_StringU bld5 (by omega)) (fun w20 U20 => ?_)
      replace hF := hF.go U20 (fun i h hs => by have := Bld.ge bld5 hs; omega)
      exact ⟨_, rfl, _, rfl, (by show l.toArray.size < _; simp; omega), hF⟩

/-- greenscreen/greenscreenref14.Find -/
theorem c_ref14_FindG {r c cur : Int} {A : Option Addr} {n cp : Nat} {cs : List Gs.Cell} {w : World} (rd1 : Rd w A (rows Gs.cv cs)) (hn : n = cs.length) {page : Int} (hcw : Gs.Cws cs) {t : ByteArray} (hts : t.size ≤ 20000) (hb : n ≤ 4096) :
    Calls Tryd.prog 26 #[.agg #[.int .i64 r, .int .i64 c, .slice A n cp, .int .i64 cur], .int .i64 page, .string t] w fun e w' => e = .returned (.int .i64 (Gs.findB page cs t)) ∧ Upd no w w' := by
  refine F26.calls ?_
  unfold F26
  have hrl := Gs.runes_le t
  have lt_rd1 := Rd.lt rd1
  have hF : Upd no w w := Fr.refl _ _ _
  refine box_intro (by rfl) (fun b1 w1 e1 h_b1 _ U1 => ?_)
  have na_rd1_b1 := rd1.apart e1
  have ge_b1 : w.heap.size ≤ b1 := by have := hF.size; omega
  replace rd1 := rd1.upd0 U1
  replace hF := hF.go0 U1
  clear e1
  refine join_cut (fun g w' => (g 7 = .int .i64 ((Gs.runes t).length : Nat)) ∧ (w'.heap[b1]? = some (.cells #[.int .i64 r, .int .i64 c, .slice A n cp, .int .i64 cur] 32 (0, 0))) ∧ (Rd w' A (rows Gs.cv cs)) ∧ (Upd no w w')) (fun J1 hJ1 => ?_) (fun gJ1 wJ1 hI => ?_)
  · refine range_str (by kernel_rfl) (fun b2 w2 e2 h_b2 _ U2 => ?_)
    have na_rd1_b2 := rd1.apart e2
    have ne_b1_b2 : b1 ≠ b2 := by have := lt_get h_b1; omega
    have ge_b2 : w.heap.size ≤ b2 := by have := hF.size; omega
    replace rd1 := rd1.upd0 U2
    replace h_b1 := U2.get0 h_b1
    replace hF := hF.go0 U2
    clear e2
    refine loop_intro (fun g w' => ∃ (pos cnt : Nat), (g 7 = .int .i64 (cnt : Nat)) ∧ (w'.heap[b2]? = some (.stringIter t pos)) ∧ (cnt + (Gs.runesAt t pos).length = (Gs.runes t).length) ∧ (w'.heap[b1]? = some (.cells #[.int .i64 r, .int .i64 c, .slice A n cp, .int .i64 cur] 32 (0, 0))) ∧ (Rd w' A (rows Gs.cv cs)) ∧ (Upd no w w')) (fun g w' => t.size - iterP w' b2) ?_ (fun g2 wl2 hI => ?_)
    · exact ⟨0, 0, (by first | exact g7 | rfl), h_b2, (Nat.zero_add _), h_b1, rd1, hF⟩
    · obtain ⟨pos, cnt, g7, h_b2, hcnt, h_b1, rd1, hF⟩ := hI
      try rw [g7]
      have it0 := h_b2
      refine next_str h_b2 ?_ ?_
      · intro h3 w3 N3 _ U3
        replace rd1 := rd1.upd1 U3 na_rd1_b2
        replace h_b1 := U3.get1 h_b1 ne_b1_b2
        replace h_b2 := N3
        replace hF := hF.go1 U3 ge_b2
        refine opv_run (ext_t (by rfl)) ?_
        refine condt ?_
        first | refine opv_run (add_i64 _ (by omega)) ?_ | refine opv_run (addI _ _ _ _) ?_
        exact ⟨⟨_, cnt + 1, (by first | exact g7 | rfl), h_b2, (by rw [Gs.runesAt_step (by assumption)] at hcnt; simp only [List.length_cons] at hcnt; omega), h_b1, rd1, hF⟩, meas_iter it0 h_b2 (by have := Gs.width_pos t pos (by assumption); omega) (by assumption)⟩
      · intro h4
        refine opv_run (ext_t (by rfl)) ?_
        refine condf ?_
        refine hJ1 _ _ ?_
        exact ⟨(by rw [show cnt = (Gs.runes t).length by (have := Gs.runesAt_end (by assumption : ¬ pos < _); rw [this] at hcnt; simpa using hcnt)] at g7; exact g7), h_b1, rd1, hF⟩
  · obtain ⟨g7, h_b1, rd1, hF⟩ := hI
    try rw [g7]
    refine opv_dec (eqI _ _ _ _ _) (fun h5 => ?_) (fun h5 => ?_)
    · refine condt ?_
      first | exact ⟨retI (Gs.findB_0 (by omega)).symm, hF⟩ | exact ⟨retI (Gs.findB_long (by omega) (by omega)).symm, hF⟩ | exact ⟨retI (Gs.findB_none (by omega) (by omega) hno).symm, hF⟩ | exact ⟨retI (Gs.findB_at (by omega) (by omega) hno (by omega) (by assumption)).symm, hF⟩
    · refine condf ?_
      refine opv_run (fieldAt_eq (off := 2) (by kernel_rfl)) ?_
      refine opv_run (ldC (by kernel_rfl) h_b1 (by rfl)) ?_
      refine opv_run (len_sl (by kernel_rfl) _ _ _) ?_
      refine opv_dec (gtr _ _ _ _) (fun h7 => ?_) (fun h7 => ?_)
      · refine condt ?_
        first | exact ⟨retI (Gs.findB_0 (by omega)).symm, hF⟩ | exact ⟨retI (Gs.findB_long (by omega) (by omega)).symm, hF⟩ | exact ⟨retI (Gs.findB_none (by omega) (by omega) hno).symm, hF⟩ | exact ⟨retI (Gs.findB_at (by omega) (by omega) hno (by omega) (by assumption)).symm, hF⟩
      · refine condf ?_
        refine join_cut (fun g w' => (Gs.noHit page cs t cs.length) ∧ (Upd no w w')) (fun J3 hJ3 => ?_) (fun gJ3 wJ3 hI => ?_)
        · refine loop_intro (fun g w' => ∃ (k : Nat), (g 8 = .int .i64 (k : Int)) ∧ (k ≤ cs.length) ∧ (Gs.noHit page cs t k) ∧ (w'.heap[b1]? = some (.cells #[.int .i64 r, .int .i64 c, .slice A n cp, .int .i64 cur] 32 (0, 0))) ∧ (Rd w' A (rows Gs.cv cs)) ∧ (Upd no w w')) (fun g w' => cs.length - (RowKit.intOf (g 8)).toNat) ?_ (fun g4 wl4 hI => ?_)
          · exact ⟨0, (by first | exact g8 | rfl), Nat.zero_le _, (Gs.noHit_0 _ _ _), h_b1, rd1, hF⟩
          · obtain ⟨k, g8, hk, hno, h_b1, rd1, hF⟩ := hI
            try rw [g8]
            refine opv_run (fieldAt_eq (off := 2) (by kernel_rfl)) ?_
            refine opv_run (ldC (by kernel_rfl) h_b1 (by rfl)) ?_
            refine opv_run (len_sl (by kernel_rfl) _ _ _) ?_
            refine opv_dec (lss _ _ _ _) (fun h9 => ?_) (fun h9 => ?_)
            · refine condt ?_
              refine opv_run (ldA (n := 4) (by kernel_rfl) h_b1 (by first | exact Nat.le_of_ble_eq_true rfl | (simp; done) | omega) (by rfl)) ?_
              refine callF_val (c_greenscreenref14_Text rd1 hn hcw hb (f := (k : Int)) (m := ((Gs.runes t).length : Nat))) (fun w10 U10 => ?_)
              replace rd1 := rd1.upd0 U10
              replace h_b1 := U10.get0 h_b1
              replace hF := hF.go0 U10
              refine opv_dec (eqS _ _ _ _) (fun h11 => ?_) (fun h11 => ?_)
              · refine condt ?_
                first | exact ⟨retI (Gs.findB_0 (by omega)).symm, hF⟩ | exact ⟨retI (Gs.findB_long (by omega) (by omega)).symm, hF⟩ | exact ⟨retI (Gs.findB_none (by omega) (by omega) hno).symm, hF⟩ | exact ⟨retI (Gs.findB_at (by omega) (by omega) hno (by omega) (by assumption)).symm, hF⟩
              · refine condf ?_
                first | refine opv_run (add_i64 _ (by omega)) ?_ | refine opv_run (addI _ _ _ _) ?_
                exact ⟨⟨k + 1, (by first | exact g8 | rfl), by omega, (Gs.noHit_step hno (by assumption)), h_b1, rd1, hF⟩, cnt_lt (by first | rfl | exact g8) rfl (by omega)⟩
            · refine condf ?_
              refine hJ3 _ _ ?_
              exact ⟨(by rw [show cs.length = k by omega]; exact hno), hF⟩
        · obtain ⟨hno, hF⟩ := hI
          first | exact ⟨retI (Gs.findB_0 (by omega)).symm, hF⟩ | exact ⟨retI (Gs.findB_long (by omega) (by omega)).symm, hF⟩ | exact ⟨retI (Gs.findB_none (by omega) (by omega) hno).symm, hF⟩ | exact ⟨retI (Gs.findB_at (by omega) (by omega) hno (by omega) (by assumption)).symm, hF⟩

/-- (*greenscreen/plane.Plane).Find -/
theorem c_Plane_FindG_ok {r c cur : Int} {A : Option Addr} {n cp bp B0 : Nat} {cs : List Gs.Cell} {w : World} (h_bp : w.heap[bp]? = some (.cells #[.int .i64 r, .int .i64 c, .slice A n cp, .int .i64 cur] 66 (0, 0))) (own_p : Own B0 w 36 5 (.slice A n cp) (rows Gs.cv cs)) (hn : n = cs.length) {page : Int} (hcw : Gs.Cws cs) {t : ByteArray} (hts : t.size ≤ 20000) (hp : 0 < n) (hb : n ≤ 4096) (hv : Gs.valid t) (hT : Lib.Utf8Tabs 0 1 w) :
    Calls Tryd.prog 25 #[.pointer (some ⟨bp, 0, none⟩), .int .i64 page, .string t] w fun e w' => e = .returned (.int .i64 (Gs.findB page cs t)) ∧ Upd no w w' := by
  refine F25.calls ?_
  unfold F25
  have hrl := Gs.runes_le t
  have hrs := Gs.runesFrom_size t
  have hrf := Gs.runesFrom_runes t
  subst hn
  have hsl := Gs.sgl_len page cs 0 cs.length
  have lt_h_bp := lt_get h_bp
  have lt_own_p := Own.lt own_p
  have hF : Upd no w w := Fr.refl _ _ _
  refine nilckp ?_
  refine opv_run (fieldAt_eq (off := 2) (by kernel_rfl)) ?_
  refine opv_run (ldC (by kernel_rfl) h_bp (by rfl)) ?_
  refine opv_run (len_sl (by kernel_rfl) _ _ _) ?_
  refine callF_ex (c_Plane_signs h_bp own_p rfl (f := 0) (m := cs.length) hcw hp hb (by omega) (by omega) hb) (fun v1 w1 D1 => ?_)
  obtain ⟨own18, U1⟩ := D1
  have nx1_h_bp_own18 : ¬ ownS _ bp := fun h => by have := (Own.ge own18 h).1; have := lt_get h_bp; omega
  have nx1_own_p_own18 : ∀ k, ownS _ k → ¬ ownS _ k := fun k hk hs => by have := (Own.ge own_p hk).2; have := (Own.ge own18 hs).1; omega
  replace own18 := own18.mono (B' := w.heap.size) hF.size
  replace own_p := own_p.upd0 U1
  replace h_bp := U1.get0 h_bp
  replace hF := hF.go0 U1
  obtain ⟨A18, c18, rfl, _⟩ := own18.rd1
  rw [hsl]
  refine convSR (e := 21) (by kernel_rfl) (by kernel_rfl) (by kernel_rfl) (by omega) (fun A2 c2 w2 rd2 gA2 U2 => ?_)
  have na_rd2_bp := gA2.ne (lt_get h_bp)
  have na_rd2_own_p : _ ∨ ∀ k, _ → ¬ ownS _ k := gA2.imp_right fun h k hk hs => by have := h k hk; have := (Own.ge own_p hs).2; omega
  have na_rd2_own18 : _ ∨ ∀ k, _ → ¬ ownS _ k := gA2.imp_right fun h k hk hs => by have := h k hk; have := (Own.ge own18 hs).2; omega
  replace own_p := own_p.upd0 U2
  replace own18 := own18.upd0 U2
  replace h_bp := U2.get0 h_bp
  replace hF := hF.go0 U2
  rw [hrs]
  rw [hrf] at rd2
  refine opv_run (len_sl (by kernel_rfl) _ _ _) ?_
  refine opv_dec (eqI _ _ _ _ _) (fun h3 => ?_) (fun h3 => ?_)
  · refine condt ?_
    first | exact ⟨retI (Gs.findB_0 (by omega)).symm, hF⟩ | exact ⟨retI (Gs.findB_long (by omega) (by omega)).symm, hF⟩ | exact ⟨retI (Gs.findB_none (by omega) (by omega) hno).symm, hF⟩ | exact ⟨retI (Gs.findB_at (by omega) (by omega) hno (by omega) ((Gs.hit_iff hcw hv (by omega) (by omega)).2 (by assumption))).symm, hF⟩
  · refine condf ?_
    refine opv_run (len_sl (by kernel_rfl) _ _ _) ?_
    refine opv_run (len_sl (by kernel_rfl) _ _ _) ?_
    refine opv_dec (gtr _ _ _ _) (fun h5 => ?_) (fun h5 => ?_)
    · refine gdtf ?_
      refine gdtf ?_
      refine gdtf ?_
      refine gdtf ?_
      refine pickt ?_
      refine condt ?_
      first | exact ⟨retI (Gs.findB_0 (by omega)).symm, hF⟩ | exact ⟨retI (Gs.findB_long (by omega) (by omega)).symm, hF⟩ | exact ⟨retI (Gs.findB_none (by omega) (by omega) hno).symm, hF⟩ | exact ⟨retI (Gs.findB_at (by omega) (by omega) hno (by omega) ((Gs.hit_iff hcw hv (by omega) (by omega)).2 (by assumption))).symm, hF⟩
    · refine gdff ?_
      refine gdff ?_
      refine callF_val (c_ToValid_ok hv (by omega) (Gs.tabs_up hT hF)) (fun w7 U7 => ?_)
      replace own_p := own_p.upd0 U7
      replace own18 := own18.upd0 U7
      replace rd2 := rd2.upd0 U7
      replace h_bp := U7.get0 h_bp
      replace hF := hF.go0 U7
      refine gdff ?_
      refine gdff ?_
      refine opv_F (neS _ _ _ _) (fun hne => hne rfl) ?_
      refine pickf ?_
      refine condf ?_
      have rd18 := own18.rdS
      rw [hsl] at own18
      rw [hrf, hsl] at na_rd2_own18
      rw [hsl] at nx1_h_bp_own18 nx1_own_p_own18
      refine app_intro (e := 21) (size := 1) (bytes := 4) (by kernel_rfl) own18 rd18 (by simp [vals_length, hsl]) vals_one (by simp only [vals_length, Gs.sgl_len]; omega) (by have := hF.size; omega) (fun v8 w8 N8 U8 => ?_)
      have own18_o := own18
      replace h_bp := U8.get h_bp nx1_h_bp_own18
      replace own_p := own_p.updS U8 nx1_own_p_own18
      replace own18 := N8
      replace rd2 := rd2.updS U8 na_rd2_own18
      replace hF := hF.go U8 (fun i h hs => by first | exact hs | exact .inl hs | exact .inr hs | (have := (Own.ge own18_o hs).1; omega))
      clear own18_o
      rw [vals_append] at own18
      obtain ⟨A37, c37, rfl, rd37⟩ := own18.rd1
      have hcap := own18.le_cap
      have hll : ((Gs.sgl page cs 0 cs.length) ++ (Gs.sgl page cs 0 cs.length)).length = cs.length + cs.length := by rw [List.length_append, hsl]
      refine join_cut (fun g w' => (Gs.noHit page cs t cs.length) ∧ (Upd no w w')) (fun J1 hJ1 => ?_) (fun gJ1 wJ1 hI => ?_)
      · refine opv_run (len_sl (by kernel_rfl) _ _ _) ?_
        refine loop_intro (fun g w' => ∃ (k : Nat), (g 40 = .int .i64 (k : Int)) ∧ (k ≤ cs.length) ∧ (Gs.noHit page cs t k) ∧ (Rd w' A37 (vals .i32 ((Gs.sgl page cs 0 cs.length) ++ (Gs.sgl page cs 0 cs.length)))) ∧ (Rd w' A2 (vals .i32 (Gs.runes t))) ∧ (Upd no w w')) (fun g w' => cs.length - (RowKit.intOf (g 40)).toNat) ?_ (fun g2 wl2 hI => ?_)
        · exact ⟨0, (by first | exact g40 | rfl), Nat.zero_le _, (Gs.noHit_0 _ _ _), rd37, rd2, hF⟩
        · obtain ⟨k, g40, hk, hno, rd37, rd2, hF⟩ := hI
          try rw [g40]
          refine opv_dec (lss _ _ _ _) (fun h9 => ?_) (fun h9 => ?_)
          · refine condt ?_
            refine opv_run (len_sl (by kernel_rfl) _ _ _) ?_
            first | refine opv_run (add_i64 _ (by omega)) ?_ | refine opv_run (addI _ _ _ _) ?_
            refine slice1 (by kernel_rfl) rd37 (by first | rfl | assumption | omega | (simp [vals_length, *]; done)) (by omega) (by omega) (by omega) hcap (fun A10 c10 rd10 => ?_)
            rw [show ((k : Int) + ((Gs.runes t).length : Nat)).toNat - (k : Int).toNat = (Gs.runes t).length by omega] at rd10
            rw [show (k : Int).toNat = k by omega, Gs.sgl_twice (by omega) (by omega)] at rd10
            rw [show ((k : Int) + ((Gs.runes t).length : Nat)).toNat - (k : Int).toNat = (Gs.runes t).length by omega]
            refine callF_bool (c_slices_EqualR rd10 (by rw [Gs.sgl_len]) rd2 rfl (by omega)) (fun w11 U11 h11 => ?_) (fun w11 U11 h11 => ?_)
            · replace rd37 := rd37.upd0 U11
              replace rd2 := rd2.upd0 U11
              replace rd10 := rd10.upd0 U11
              replace hF := hF.go0 U11
              try simp only [decide_eq_true_eq, decide_eq_false_iff_not] at h11
              refine condt ?_
              first | exact ⟨retI (Gs.findB_0 (by omega)).symm, hF⟩ | exact ⟨retI (Gs.findB_long (by omega) (by omega)).symm, hF⟩ | exact ⟨retI (Gs.findB_none (by omega) (by omega) hno).symm, hF⟩ | exact ⟨retI (Gs.findB_at (by omega) (by omega) hno (by omega) ((Gs.hit_iff hcw hv (by omega) (by omega)).2 (by assumption))).symm, hF⟩
            · replace rd37 := rd37.upd0 U11
              replace rd2 := rd2.upd0 U11
              replace rd10 := rd10.upd0 U11
              replace hF := hF.go0 U11
              try simp only [decide_eq_true_eq, decide_eq_false_iff_not] at h11
              refine condf ?_
              first | refine opv_run (add_i64 _ (by omega)) ?_ | refine opv_run (addI _ _ _ _) ?_
              exact ⟨⟨k + 1, (by first | exact g40 | rfl), by omega, (Gs.noHit_step hno (fun he => absurd ((Gs.hit_iff hcw hv (by omega) (by omega)).1 he) (by assumption))), rd37, rd2, hF⟩, cnt_lt (by first | rfl | exact g40) rfl (by omega)⟩
          · refine condf ?_
            refine hJ1 _ _ ?_
            exact ⟨(by rw [show cs.length = k by omega]; exact hno), hF⟩
      · obtain ⟨hno, hF⟩ := hI
        first | exact ⟨retI (Gs.findB_0 (by omega)).symm, hF⟩ | exact ⟨retI (Gs.findB_long (by omega) (by omega)).symm, hF⟩ | exact ⟨retI (Gs.findB_none (by omega) (by omega) hno).symm, hF⟩ | exact ⟨retI (Gs.findB_at (by omega) (by omega) hno (by omega) ((Gs.hit_iff hcw hv (by omega) (by omega)).2 (by assumption))).symm, hF⟩

/-- (*greenscreen/plane.Plane).Find -/
theorem c_Plane_FindG_bad {r c cur : Int} {A : Option Addr} {n cp bp B0 : Nat} {cs : List Gs.Cell} {w : World} (h_bp : w.heap[bp]? = some (.cells #[.int .i64 r, .int .i64 c, .slice A n cp, .int .i64 cur] 66 (0, 0))) (own_p : Own B0 w 36 5 (.slice A n cp) (rows Gs.cv cs)) (hn : n = cs.length) {page : Int} (hcw : Gs.Cws cs) {t : ByteArray} (hts : t.size ≤ 20000) (hp : 0 < n) (hb : n ≤ 4096) (hv : ¬ Gs.valid t) (hT : Lib.Utf8Tabs 0 1 w) :
    Calls Tryd.prog 25 #[.pointer (some ⟨bp, 0, none⟩), .int .i64 page, .string t] w fun e w' => e = .returned (.int .i64 (Gs.findB page cs t)) ∧ Upd no w w' := by
  refine F25.calls ?_
  unfold F25
  have hrl := Gs.runes_le t
  have hrs := Gs.runesFrom_size t
  have hrf := Gs.runesFrom_runes t
  subst hn
  have hsl := Gs.sgl_len page cs 0 cs.length
  have lt_h_bp := lt_get h_bp
  have lt_own_p := Own.lt own_p
  have hF : Upd no w w := Fr.refl _ _ _
  refine nilckp ?_
  refine opv_run (fieldAt_eq (off := 2) (by kernel_rfl)) ?_
  refine opv_run (ldC (by kernel_rfl) h_bp (by rfl)) ?_
  refine opv_run (len_sl (by kernel_rfl) _ _ _) ?_
  refine callF_ex (c_Plane_signs h_bp own_p rfl (f := 0) (m := cs.length) hcw hp hb (by omega) (by omega) hb) (fun v1 w1 D1 => ?_)
  obtain ⟨own18, U1⟩ := D1
  have nx1_h_bp_own18 : ¬ ownS _ bp := fun h => by have := (Own.ge own18 h).1; have := lt_get h_bp; omega
  have nx1_own_p_own18 : ∀ k, ownS _ k → ¬ ownS _ k := fun k hk hs => by have := (Own.ge own_p hk).2; have := (Own.ge own18 hs).1; omega
  replace own18 := own18.mono (B' := w.heap.size) hF.size
  replace own_p := own_p.upd0 U1
  replace h_bp := U1.get0 h_bp
  replace hF := hF.go0 U1
  obtain ⟨A18, c18, rfl, _⟩ := own18.rd1
  rw [hsl]
  refine convSR (e := 21) (by kernel_rfl) (by kernel_rfl) (by kernel_rfl) (by omega) (fun A2 c2 w2 rd2 gA2 U2 => ?_)
  have na_rd2_bp := gA2.ne (lt_get h_bp)
  have na_rd2_own_p : _ ∨ ∀ k, _ → ¬ ownS _ k := gA2.imp_right fun h k hk hs => by have := h k hk; have := (Own.ge own_p hs).2; omega
  have na_rd2_own18 : _ ∨ ∀ k, _ → ¬ ownS _ k := gA2.imp_right fun h k hk hs => by have := h k hk; have := (Own.ge own18 hs).2; omega
  replace own_p := own_p.upd0 U2
  replace own18 := own18.upd0 U2
  replace h_bp := U2.get0 h_bp
  replace hF := hF.go0 U2
  rw [hrs]
  rw [hrf] at rd2
  refine opv_run (len_sl (by kernel_rfl) _ _ _) ?_
  refine opv_dec (eqI _ _ _ _ _) (fun h3 => ?_) (fun h3 => ?_)
  · refine condt ?_
    first | exact ⟨retI (Gs.findB_0 (by omega)).symm, hF⟩ | exact ⟨retI (Gs.findB_long (by omega) (by omega)).symm, hF⟩ | exact ⟨retI (Gs.findB_bad (by omega) hcw hv).symm, hF⟩
  · refine condf ?_
    refine opv_run (len_sl (by kernel_rfl) _ _ _) ?_
    refine opv_run (len_sl (by kernel_rfl) _ _ _) ?_
    refine opv_dec (gtr _ _ _ _) (fun h5 => ?_) (fun h5 => ?_)
    · refine gdtf ?_
      refine gdtf ?_
      refine gdtf ?_
      refine gdtf ?_
      refine pickt ?_
      refine condt ?_
      first | exact ⟨retI (Gs.findB_0 (by omega)).symm, hF⟩ | exact ⟨retI (Gs.findB_long (by omega) (by omega)).symm, hF⟩ | exact ⟨retI (Gs.findB_bad (by omega) hcw hv).symm, hF⟩
    · refine gdff ?_
      refine gdff ?_
      refine callF_ex (c_ToValid_bad hv (by omega) (Gs.tabs_up hT hF)) (fun v7 w7 D7 => ?_)
      obtain ⟨s31, rfl, hsz31, U7⟩ := D7
      replace own_p := own_p.upd0 U7
      replace own18 := own18.upd0 U7
      replace rd2 := rd2.upd0 U7
      replace h_bp := U7.get0 h_bp
      replace hF := hF.go0 U7
      refine gdff ?_
      refine gdff ?_
      refine opv_T (neS _ _ _ _) (fun he => by rw [he] at hsz31; omega) ?_
      refine pickf ?_
      refine condt ?_
      first | exact ⟨retI (Gs.findB_0 (by omega)).symm, hF⟩ | exact ⟨retI (Gs.findB_long (by omega) (by omega)).symm, hF⟩ | exact ⟨retI (Gs.findB_bad (by omega) hcw hv).symm, hF⟩

end Go.Proofs.YtojcbhkhfcddnaaDoor
