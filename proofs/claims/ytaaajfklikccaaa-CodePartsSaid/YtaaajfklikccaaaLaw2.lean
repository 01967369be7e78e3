/-
  Contracts of functions of the program, walked over their shallow forms. No condition but the ones that each states.
-/
import Derived.Test.YtaaajfklikccaaaLaw
import Derived.Test.YtaaajfklikccaaaCodeRunes
namespace Go.Proofs.Ytaaajfklikccaaa
open Go Go.Sh
set_option linter.unusedVariables false
set_option maxRecDepth 100000


/-- greenscreen/greenscreenlaw01.CodeBack -/
theorem c_greenscreenlaw01_CodeBack {page : Int} {A : Option Addr} {len c : Nat} {bs : List Int} {s : ByteArray} {w : World} (rd1 : Rd w A (vals .u8 bs)) (hbs : Bs bs) (hl : len = bs.length) :
    Calls Try.prog 6 #[.int .i64 page, .slice A len c, .string s] w fun e w' => e = .returned (.bool true) ∧ Upd no w w' := by
  refine F6.calls ?_
  unfold F6
  subst hl
  have lf := List.length_filter_le Gs.seen bs
  have ltx := Gs.txt_length page (bs.filter Gs.seen)
  have lt_rd1 := Rd.lt rd1
  have hF : Upd no w w := Fr.refl _ _ _
  refine callF_T (c_greenscreenlaw01_alive) (by first | rfl | assumption | omega | decide +kernel) (fun w1 U1 => ?_)
  replace rd1 := rd1.upd0 U1
  replace hF := hF.go0 U1
  refine opv_run (notT) ?_
  refine condf ?_
  refine opv_run (len_sl (by kernel_rfl) _ _ _) ?_
  refine opv_dec (gtr _ _ _ _) (fun h2 => ?_) (fun h2 => ?_)
  · refine gdtf ?_
    refine gdtf ?_
    refine gdtf ?_
    refine pickt ?_
    refine condt ?_
    exact ⟨rfl, hF⟩
  · refine gdff ?_
    refine gdff ?_
    refine opv_run (len_str (by kernel_rfl) _) ?_
    refine gdff ?_
    refine opv_dec (gtr _ _ _ _) (fun h4 => ?_) (fun h4 => ?_)
    · refine pickf ?_
      refine condt ?_
      exact ⟨rfl, hF⟩
    · refine pickf ?_
      refine condf ?_
      refine buildSlice_intro (e := 5) (m := 1) (z := #[.int .u8 0]) (by kernel_rfl) (by kernel_rfl) (by rfl) (by decide) (by first | (simp [fillL, splice, repL, Value.cells]; done) | (simp [fillL, splice, repL, Value.cells]; rfl)) (fun b6 w6 e6 h_b6 _ U6 => ?_)
      have na_rd1_b6 := rd1.apart e6
      have ge_b6 : w.heap.size ≤ b6 := by have := hF.size; omega
      replace rd1 := rd1.upd0 U6
      replace hF := hF.go0 U6
      clear e6
      refine join_cut (fun g w' => ∃ (v7 : Value), (g 7 = v7) ∧ (Own w.heap.size w' 5 1 v7 (vals .u8 (bs.filter Gs.seen))) ∧ (Upd no w w')) (fun J1 hJ1 => ?_) (fun gJ1 wJ1 hI => ?_)
      · refine opv_run (len_sl (by kernel_rfl) _ _ _) ?_
        refine loop_intro (fun g w' => ∃ (k : Nat) (v7 : Value), (g 27 = .int .i64 (k : Int)) ∧ (k ≤ bs.length) ∧ (g 7 = v7) ∧ (Own w.heap.size w' 5 1 v7 (vals .u8 ((bs.take k).filter Gs.seen))) ∧ (Rd w' A (vals .u8 bs)) ∧ (Upd no w w')) (fun g w' => bs.length - (RowKit.intOf (g 27)).toNat) ?_ (fun g2 wl2 hI => ?_)
        · exact ⟨0, _, (by first | exact g27 | rfl), Nat.zero_le _, (by first | exact g7 | rfl), (Own.of_block (n := 0) h_b6 ge_b6 rfl (by decide)), rd1, hF⟩
        · obtain ⟨k, v7, g27, hk, g7, own7, rd1, hF⟩ := hI
          try rw [g27]
          try rw [g7]
          refine opv_dec (lss _ _ _ _) (fun h7 => ?_) (fun h7 => ?_)
          · refine condt ?_
            refine join_cut (fun g w' => ∃ (v7 : Value), (g 7 = v7) ∧ (Own w.heap.size w' 5 1 v7 (vals .u8 ((bs.take (k + 1)).filter Gs.seen))) ∧ (Rd w' A (vals .u8 bs)) ∧ (Upd no w w')) (fun J3 hJ3 => ?_) (fun gJ3 wJ3 hI => ?_)
            · refine idx_int (by kernel_rfl) (by kernel_rfl) rd1 (by first | rfl | assumption | omega | (simp; done) | (simp [vals_length, *]; done) | (simp [vals_length] at *; omega)) (by omega) (by omega) (fun x8 hx8 => ?_)
              try simp only [Int.toNat_natCast] at hx8
              have lfk := List.length_filter_le Gs.seen (bs.take k)
              rw [List.length_take] at lfk
              refine callF_bool (c_code_Graphic) (fun w9 U9 h9 => ?_) (fun w9 U9 h9 => ?_)
              · replace own7 := own7.upd0 U9
                replace rd1 := rd1.upd0 U9
                replace hF := hF.go0 U9
                try simp only [decide_eq_true_eq, decide_eq_false_iff_not] at h9
                refine condt ?_
                refine buildSlice_intro (e := 5) (m := 1) (z := #[.int .u8 0]) (by kernel_rfl) (by kernel_rfl) (by rfl) (by decide) (by first | (simp [fillL, splice, repL, Value.cells]; done) | (simp [fillL, splice, repL, Value.cells]; rfl)) (fun b10 w10 e10 h_b10 _ U10 => ?_)
                have na_own7_b10 := own7.apart e10
                have na_rd1_b10 := rd1.apart e10
                have ge_b10 : w.heap.size ≤ b10 := by have := hF.size; omega
                replace own7 := own7.upd0 U10
                replace rd1 := rd1.upd0 U10
                replace hF := hF.go0 U10
                clear e10
                refine app_intro (e := 5) (size := 1) (bytes := 1) (by kernel_rfl) own7 (Rd.of_blockL h_b10) rfl (by first | (simp [Value.oneCell']; done) | (intro u hu; simp only [List.mem_singleton] at hu; subst hu; rfl) | (simp; intros; subst_vars; rfl)) (by simp only [vals_length, List.length_take, List.length_cons, List.length_nil, List.length_append]; omega) (by have := hF.size; omega) (fun v11 w11 N11 U11 => ?_)
                have own7_o := own7
                replace own7 := N11
                replace rd1 := rd1.updS U11 (lt_rd1.imp_right fun h k hk hs => by have := h k hk; have := (Own.ge own7_o hs).1; omega)
                replace h_b10 := U11.get h_b10 (fun h => na_own7_b10 _ h rfl)
                replace hF := hF.go U11 (fun i h hs => by have := (Own.ge own7_o hs).1; omega)
                clear own7_o
                refine hJ3 _ _ ?_
                exact ⟨_, (by first | exact g7 | rfl), (by first | (rw [Gs.filt_t hx8 (by assumption)]; exact own_snoc own7) | (rw [Gs.filt_f hx8 (by assumption)]; exact own7)), rd1, hF⟩
              · replace own7 := own7.upd0 U9
                replace rd1 := rd1.upd0 U9
                replace hF := hF.go0 U9
                try simp only [decide_eq_true_eq, decide_eq_false_iff_not] at h9
                refine condf ?_
                refine hJ3 _ _ ?_
                exact ⟨_, (by first | exact g7 | rfl), (by first | (rw [Gs.filt_t hx8 (by assumption)]; exact own_snoc own7) | (rw [Gs.filt_f hx8 (by assumption)]; exact own7)), rd1, hF⟩
            · obtain ⟨v7, g7, own7, rd1, hF⟩ := hI
              try rw [g7]
              first | refine opv_run (add_i64 _ (by omega)) ?_ | refine opv_run (addI _ _ _ _) ?_
              exact ⟨⟨k + 1, _, (by first | exact g27 | rfl), by omega, (by first | exact g7 | rfl), own7, rd1, hF⟩, cnt_lt (by first | rfl | exact g27) rfl (by omega)⟩
          · refine condf ?_
            refine hJ1 _ _ ?_
            exact ⟨v7, (by first | exact g7 | rfl), (by rw [List.take_of_length_le (by omega)] at own7; exact own7), hF⟩
      · obtain ⟨v7, g7, own7, hF⟩ := hI
        try rw [g7]
        obtain ⟨A7, c7, rfl, rd7⟩ := own7.rd1
        try rw [g7]
        refine callF_val (c_code_Text rd7 (fun x hx => hbs x (List.mem_filter.1 hx).1) (by omega)) (fun w12 U12 => ?_)
        replace rd7 := rd7.upd0 U12
        replace hF := hF.go0 U12
        refine callF_ex (c_code_Bytes (by rw [str_size]; omega)) (fun v13 w13 D13 => ?_)
        rw [Gs.bytesOf_txt (fun x hx => hbs x (List.mem_filter.1 hx).1) (fun x hx => (List.mem_filter.1 hx).2)] at D13
        simp only [Option.isSome_some, if_true, Option.getD_some] at D13
        obtain ⟨v43, rfl, own43, U13⟩ := D13
        obtain ⟨A43, c43, rfl, rd43⟩ := own43.rd1
        replace rd7 := rd7.upd0 U13
        replace hF := hF.go0 U13
        refine opv_run (ext_t (by rfl)) ?_
        refine opv_run (ext_t (by rfl)) ?_
        refine opv_F (neI _ _ _ _ _) (by first | rfl | assumption | omega | decide +kernel) ?_
        refine gdff ?_
        refine gdff ?_
        refine gdff ?_
        refine callF_T (c_greenscreenref01_Same rd43 rd7 (by omega)) (decide_eq_true rfl) (fun w14 U14 => ?_)
        replace rd7 := rd7.upd0 U14
        replace rd43 := rd43.upd0 U14
        replace hF := hF.go0 U14
        refine gdff ?_
        refine opv_run (notT) ?_
        refine pickf ?_
        refine condf ?_
        refine callF_ex (c_code_Bytes (by omega)) (fun v15 w15 D15 => ?_)
        obtain ⟨v57, rfl, own57, U15⟩ := D15
        obtain ⟨A57, c57, rfl, rd57⟩ := own57.rd1
        replace rd7 := rd7.upd0 U15
        replace rd43 := rd43.upd0 U15
        replace hF := hF.go0 U15
        refine opv_run (ext_t (by rfl)) ?_
        refine opv_run (ext_t (by rfl)) ?_
        refine opv_dec (neI _ _ _ _ _) (fun h16 => ?_) (fun h16 => ?_)
        · refine gdtf ?_
          refine gdtf ?_
          refine gdtf ?_
          refine gdtf ?_
          refine gdtf ?_
          refine pickt ?_
          exact ⟨rfl, hF⟩
        · refine gdff ?_
          refine gdff ?_
          refine gdff ?_
          obtain ⟨xs, hxs⟩ := Gs.some_of (by assumption)
          have e65 := Gs.txt_bytes hxs
          have l65 := Gs.bytesOf_len s page
          simp only [hxs, Option.getD_some] at rd57 l65 ⊢
          refine callF_val (c_code_Text (bs := xs) rd57 (Gs.enc_bytes hxs) (by omega)) (fun w18 U18 => ?_)
          replace rd7 := rd7.upd0 U18
          replace rd43 := rd43.upd0 U18
          replace rd57 := rd57.upd0 U18
          replace hF := hF.go0 U18
          refine gdff ?_
          refine gdff ?_
          refine opv_T (eqS _ _ _ _) (e65) ?_
          refine pickf ?_
          exact ⟨rfl, hF⟩

/-- greenscreen/greenscreenlaw01.CodeParts -/
theorem c_greenscreenlaw01_CodeParts {page : Int} {A B : Option Addr} {la lb ca cb : Nat} {es bs : List Int} {s t : ByteArray} {w : World} (rd1 : Rd w A (vals .u8 es)) (hba : Bs es) (hla : la = es.length) (rd2 : Rd w B (vals .u8 bs)) (hbb : Bs bs) (hlb : lb = bs.length) :
    Calls Try.prog 8 #[.int .i64 page, .slice A la ca, .slice B lb cb, .string s, .string t] w fun e w' => e = .returned (.bool true) ∧ Upd no w w' := by
  refine F8.calls ?_
  unfold F8
  subst hla
  subst hlb
  have lta := Gs.txt_length page es
  have ltb := Gs.txt_length page bs
  have lt_rd1 := Rd.lt rd1
  have lt_rd2 := Rd.lt rd2
  have hF : Upd no w w := Fr.refl _ _ _
  refine callF_T (c_greenscreenlaw01_alive) (by first | rfl | assumption | omega | decide +kernel) (fun w1 U1 => ?_)
  replace rd1 := rd1.upd0 U1
  replace rd2 := rd2.upd0 U1
  replace hF := hF.go0 U1
  refine opv_run (notT) ?_
  refine condf ?_
  refine opv_run (len_sl (by kernel_rfl) _ _ _) ?_
  refine opv_dec (gtr _ _ _ _) (fun h2 => ?_) (fun h2 => ?_)
  · refine gdtf ?_
    refine gdtf ?_
    refine gdtf ?_
    refine pickt ?_
    refine gdtf ?_
    refine gdtf ?_
    refine gdtf ?_
    refine pickt ?_
    refine gdtf ?_
    refine gdtf ?_
    refine gdtf ?_
    refine pickt ?_
    refine condt ?_
    exact ⟨rfl, hF⟩
  · refine gdff ?_
    refine gdff ?_
    refine opv_run (len_sl (by kernel_rfl) _ _ _) ?_
    refine gdff ?_
    refine opv_dec (gtr _ _ _ _) (fun h4 => ?_) (fun h4 => ?_)
    · refine pickf ?_
      refine gdtf ?_
      refine gdtf ?_
      refine gdtf ?_
      refine pickt ?_
      refine gdtf ?_
      refine gdtf ?_
      refine gdtf ?_
      refine pickt ?_
      refine condt ?_
      exact ⟨rfl, hF⟩
    · refine pickf ?_
      refine gdff ?_
      refine gdff ?_
      refine opv_run (len_str (by kernel_rfl) _) ?_
      refine gdff ?_
      refine opv_dec (gtr _ _ _ _) (fun h6 => ?_) (fun h6 => ?_)
      · refine pickf ?_
        refine gdtf ?_
        refine gdtf ?_
        refine gdtf ?_
        refine pickt ?_
        refine condt ?_
        exact ⟨rfl, hF⟩
      · refine pickf ?_
        refine gdff ?_
        refine gdff ?_
        refine opv_run (len_str (by kernel_rfl) _) ?_
        refine gdff ?_
        refine opv_dec (gtr _ _ _ _) (fun h8 => ?_) (fun h8 => ?_)
        · refine pickf ?_
          refine condt ?_
          exact ⟨rfl, hF⟩
        · refine pickf ?_
          refine condf ?_
          refine callF_ex (c_greenscreenref01_Copy rd1 (by omega)) (fun v10 w10 D10 => ?_)
          obtain ⟨own40, U10⟩ := D10
          have own40 := own40.mono hF.size
          replace rd1 := rd1.upd0 U10
          replace rd2 := rd2.upd0 U10
          replace hF := hF.go0 U10
          refine app_intro (e := 5) (size := 1) (bytes := 1) (by kernel_rfl) own40 rd2 (by first | (simp [vals_length]; done) | (simp [vals_length]; omega)) vals_one (by simp only [vals_length, List.length_take, List.length_cons, List.length_nil, List.length_append]; omega) (by have := hF.size; omega) (fun v11 w11 N11 U11 => ?_)
          have own40_o := own40
          replace rd1 := rd1.updS U11 (lt_rd1.imp_right fun h k hk hs => by have := h k hk; have := (Own.ge own40_o hs).1; omega)
          replace rd2 := rd2.updS U11 (lt_rd2.imp_right fun h k hk hs => by have := h k hk; have := (Own.ge own40_o hs).1; omega)
          replace own40 := N11
          replace hF := hF.go U11 (fun i h hs => by have := (Own.ge own40_o hs).1; omega)
          clear own40_o
          obtain ⟨A42, c42, rfl, rd42⟩ := Own.rd1 (xs := es ++ bs) (by simpa [vals] using own40)
          refine callF_val (c_code_Text (w := w11) (by simpa using rd42) (hba.append hbb) (by simp only [List.length_append]; omega)) (fun w12 U12 => ?_)
          replace rd1 := rd1.upd0 U12
          replace rd2 := rd2.upd0 U12
          replace own40 := own40.upd0 U12
          replace hF := hF.go0 U12
          refine callF_val (c_code_Text rd1 hba (by omega)) (fun w13 U13 => ?_)
          replace rd1 := rd1.upd0 U13
          replace rd2 := rd2.upd0 U13
          replace own40 := own40.upd0 U13
          replace hF := hF.go0 U13
          refine callF_val (c_code_Text rd2 hbb (by omega)) (fun w14 U14 => ?_)
          replace rd1 := rd1.upd0 U14
          replace rd2 := rd2.upd0 U14
          replace own40 := own40.upd0 U14
          replace hF := hF.go0 U14
          refine opv_run (addS (by first | assumption | omega | (simp only [str_size, List.length_append, List.length_cons, List.length_nil]; omega) | simp [*])) ?_
          refine opv_F (neS _ _ _ _) (fun hne => hne (by rw [Gs.txt_append, Gs.app_str])) ?_
          refine condf ?_
          refine join_cut (fun g w' => (g 11 = .int .i64 (es.length : Nat)) ∧ (Rd w' A (vals .u8 es)) ∧ (Rd w' B (vals .u8 bs)) ∧ (Upd no w w')) (fun J1 hJ1 => ?_) (fun gJ1 wJ1 hI => ?_)
          · refine callF_val (c_code_Text rd1 hba (by omega)) (fun w15 U15 => ?_)
            replace rd1 := rd1.upd0 U15
            replace rd2 := rd2.upd0 U15
            replace own40 := own40.upd0 U15
            replace hF := hF.go0 U15
            refine range_str (by kernel_rfl) (fun b16 w16 e16 h_b16 _ U16 => ?_)
            have na_rd1_b16 := rd1.apart e16
            have na_rd2_b16 := rd2.apart e16
            have na_own40_b16 := own40.apart e16
            have ge_b16 : w.heap.size ≤ b16 := by have := hF.size; omega
            replace rd1 := rd1.upd0 U16
            replace rd2 := rd2.upd0 U16
            replace own40 := own40.upd0 U16
            replace hF := hF.go0 U16
            clear e16
            refine loop_intro (fun g w' => ∃ (pos cnt : Nat), (g 11 = .int .i64 (cnt : Nat)) ∧ (w'.heap[b16]? = some (.stringIter ⟨(Gs.txt page es).toArray⟩ pos)) ∧ (cnt + (Gs.runesAt ⟨(Gs.txt page es).toArray⟩ pos).length = (Gs.runes ⟨(Gs.txt page es).toArray⟩).length) ∧ (Rd w' A (vals .u8 es)) ∧ (Rd w' B (vals .u8 bs)) ∧ (Upd no w w')) (fun g w' => (Gs.txt page es).length - iterP w' b16) ?_ (fun g2 wl2 hI => ?_)
            · exact ⟨0, 0, (by first | exact g11 | rfl), h_b16, (Nat.zero_add _), rd1, rd2, hF⟩
            · obtain ⟨pos, cnt, g11, h_b16, hcnt, rd1, rd2, hF⟩ := hI
              try rw [g11]
              have it0 := h_b16
              have hc := Gs.runes_count page hba
              refine next_str h_b16 ?_ ?_
              · intro h17 w17 N17 _ U17
                replace h_b16 := N17
                replace rd1 := rd1.upd1 U17 na_rd1_b16
                replace rd2 := rd2.upd1 U17 na_rd2_b16
                replace hF := hF.go1 U17 ge_b16
                refine opv_run (ext_t (by rfl)) ?_
                refine condt ?_
                first | refine opv_run (add_i64 _ (by omega)) ?_ | refine opv_run (addI _ _ _ _) ?_
                exact ⟨⟨_, cnt + 1, (by first | exact g11 | rfl), h_b16, (by rw [Gs.runesAt_step (by assumption)] at hcnt; simp only [List.length_cons] at hcnt; omega), rd1, rd2, hF⟩, meas_iter it0 h_b16 (by have := Gs.width_pos ⟨(Gs.txt page es).toArray⟩ pos (by assumption); omega) (by have h : pos < (⟨(Gs.txt page es).toArray⟩ : ByteArray).size := (by assumption); rwa [str_size] at h)⟩
              · intro h18
                refine opv_run (ext_t (by rfl)) ?_
                refine condf ?_
                refine hJ1 _ _ ?_
                exact ⟨(by rw [show cnt = es.length by (have := Gs.runesAt_end (by assumption : ¬ pos < _); rw [this] at hcnt; simpa [Gs.runes_count page hba] using hcnt)] at g11; exact g11), rd1, rd2, hF⟩
          · obtain ⟨g11, rd1, rd2, hF⟩ := hI
            try rw [g11]
            refine callF_ex (c_code_Bytes (by omega)) (fun v19 w19 D19 => ?_)
            obtain ⟨v63, rfl, own63, U19⟩ := D19
            have own63 := own63.mono hF.size
            replace rd1 := rd1.upd0 U19
            replace rd2 := rd2.upd0 U19
            replace hF := hF.go0 U19
            refine opv_run (ext_t (by rfl)) ?_
            refine opv_run (ext_t (by rfl)) ?_
            refine callF_ex (c_code_Bytes (by omega)) (fun v20 w20 D20 => ?_)
            obtain ⟨v69, rfl, own69, U20⟩ := D20
            obtain ⟨A69, c69, rfl, rd69⟩ := own69.rd1
            have na69 := own_apart own63 (Nat.le_refl _) own69
            replace rd1 := rd1.upd0 U20
            replace rd2 := rd2.upd0 U20
            replace own63 := own63.upd0 U20
            replace hF := hF.go0 U20
            refine opv_run (ext_t (by rfl)) ?_
            refine opv_run (ext_t (by rfl)) ?_
            refine opv_run (len_sl (by kernel_rfl) _ _ _) ?_
            refine opv_F (neI _ _ _ _ _) (by omega) ?_
            refine gdff ?_
            refine gdff ?_
            refine opv_dec (neI _ _ _ _ _) (fun h21 => ?_) (fun h21 => ?_)
            · refine pickf ?_
              refine gdtf ?_
              refine gdtf ?_
              refine pickt ?_
              refine condt ?_
              refine opv_run (len_sl (by kernel_rfl) _ _ _) ?_
              refine opv_T (eqI _ _ _ _ _) (by first | rfl | assumption | omega | decide +kernel) ?_
              exact ⟨rfl, hF⟩
            · refine pickf ?_
              refine gdff ?_
              refine gdff ?_
              refine opv_dec (neI _ _ _ _ _) (fun h23 => ?_) (fun h23 => ?_)
              · refine pickf ?_
                refine condt ?_
                refine opv_run (len_sl (by kernel_rfl) _ _ _) ?_
                refine opv_T (eqI _ _ _ _ _) (by first | rfl | assumption | omega | decide +kernel) ?_
                exact ⟨rfl, hF⟩
              · refine pickf ?_
                refine condf ?_
                refine opv_run (addS (by first | assumption | omega | (simp only [str_size, List.length_append, List.length_cons, List.length_nil]; omega) | simp [*])) ?_
                refine callF_ex (c_code_Bytes (by rw [app_size]; omega)) (fun v25 w25 D25 => ?_)
                obtain ⟨xs, hxs⟩ := Gs.some_of (o := Gs.bytesOf page s) (by assumption)
                obtain ⟨ys, hys⟩ := Gs.some_of (o := Gs.bytesOf page t) (by assumption)
                have lx := Gs.bytesOf_len s page
                have ly := Gs.bytesOf_len t page
                rw [Gs.enc_two hxs hys] at D25
                simp only [Option.isSome_some, if_true, Option.getD_some] at D25
                obtain ⟨v93, rfl, own93, U25⟩ := D25
                obtain ⟨A93, c93, rfl, rd93⟩ := own93.rd1
                have na93 := own_apart own63 (Nat.le_refl _) own93
                simp only [hxs, Option.getD_some] at own63 lx ⊢
                simp only [hys, Option.getD_some] at rd69 ly na69 ⊢
                replace rd1 := rd1.upd0 U25
                replace rd2 := rd2.upd0 U25
                replace own63 := own63.upd0 U25
                replace rd69 := rd69.upd0 U25
                replace hF := hF.go0 U25
                refine opv_run (ext_t (by rfl)) ?_
                refine opv_run (ext_t (by rfl)) ?_
                refine opv_T (eqI _ _ _ _ _) (by first | rfl | assumption | omega | decide +kernel) ?_
                refine gdtt ?_
                refine gdtt ?_
                refine gdtt ?_
                refine gdtt ?_
                refine app_intro (e := 5) (size := 1) (bytes := 1) (by kernel_rfl) own63 rd69 (by first | (simp [vals_length]; done) | (simp [vals_length]; omega)) vals_one (by simp only [vals_length, List.length_take, List.length_cons, List.length_nil, List.length_append]; omega) (by have := hF.size; omega) (fun v26 w26 N26 U26 => ?_)
                have own63_o := own63
                replace rd1 := rd1.updS U26 (lt_rd1.imp_right fun h k hk hs => by have := h k hk; have := (Own.ge own63_o hs).1; omega)
                replace rd2 := rd2.updS U26 (lt_rd2.imp_right fun h k hk hs => by have := h k hk; have := (Own.ge own63_o hs).1; omega)
                replace own63 := N26
                replace rd69 := rd69.updS U26 (.inr na69)
                replace rd93 := rd93.updS U26 (.inr na93)
                replace hF := hF.go U26 (fun i h hs => by have := (Own.ge own63_o hs).1; omega)
                clear own63_o
                obtain ⟨A102, c102, rfl, rd102⟩ := Own.rd1 (xs := xs ++ ys) (by simpa [vals] using own63)
                refine gdtt ?_
                refine callF_T (c_greenscreenref01_Same rd93 rd102 (by simp only [List.length_append]; omega)) (decide_eq_true rfl) (fun w27 U27 => ?_)
                replace rd1 := rd1.upd0 U27
                replace rd2 := rd2.upd0 U27
                replace own63 := own63.upd0 U27
                replace rd69 := rd69.upd0 U27
                replace rd93 := rd93.upd0 U27
                replace hF := hF.go0 U27
                refine pickt ?_
                exact ⟨rfl, hF⟩

end Go.Proofs.Ytaaajfklikccaaa
