/-
  Contracts of functions of the program, walked over their shallow forms. No condition but the ones that each states.
-/
import Derived.Test.YtojcbhkhfcddnaaPd
import Derived.Test.YtojcbhkhfcddnaaCodeC
import Derived.Test.YtojcbhkhfcddnaaPlaneText
namespace Go.Proofs.Ytojcbhkhfcddnaa
open Go Go.Sh
set_option linter.unusedVariables false
set_option maxRecDepth 100000


/-- greenscreen/greenscreenref14.Sign -/
theorem c_greenscreenref14_Sign {page : Int} {x : Gs.Cell} {w : World} (hx : 0 ≤ x.b ∧ x.b ≤ 255) :
    Calls Try.prog 54 #[.int .i64 page, .agg (Gs.cv x).toArray] w fun e w' => e = .returned (.string (Utf8.encode (Gs.sign1 page x))) ∧ Upd no w w' := by
  refine F54.calls ?_
  unfold F54
  have hF : Upd no w w := Fr.refl _ _ _
  refine box_intro (cs := (Gs.cv x).toArray) (by rfl) (fun b1 w1 e1 h_b1 _ U1 => ?_)
  have ge_b1 : w.heap.size ≤ b1 := by have := hF.size; omega
  replace hF := hF.go0 U1
  clear e1
  refine opv_run (fieldAt_eq (off := 2) (by kernel_rfl)) ?_
  refine opv_b (ldC (by kernel_rfl) h_b1 (by rfl)) (fun h2 => ?_) (fun h2 => ?_)
  · refine condt ?_
    first | exact ⟨by rw [Gs.sign1_st (by assumption), Gs.enc32], hF⟩ | exact ⟨by rw [Gs.sign1_ge (by rw [Bool.not_eq_true]; assumption) (by assumption)], hF⟩ | exact ⟨by rw [Gs.sign1_on (by rw [Bool.not_eq_true]; assumption) (by rw [Bool.not_eq_true]; assumption) (by assumption)], hF⟩ | exact ⟨by rw [Gs.sign1_no (by rw [Bool.not_eq_true]; assumption) (by rw [Bool.not_eq_true]; assumption) (by assumption), Gs.enc32], hF⟩
  · refine condf ?_
    refine opv_run (fieldAt_eq (off := 1) (by kernel_rfl)) ?_
    refine opv_b (ldC (by kernel_rfl) h_b1 (by rfl)) (fun h4 => ?_) (fun h4 => ?_)
    · refine condt ?_
      refine opv_run (fieldAt_eq (off := 0) (by kernel_rfl)) ?_
      refine opv_run (ldC (by kernel_rfl) h_b1 (by rfl)) ?_
      first | refine opv_run (conv_i64 (by kernel_rfl) (by kernel_rfl) (by omega)) ?_ | refine opv_run (convII (k := .i64) (by kernel_rfl) (by kernel_rfl)) ?_
      first | refine opv_run (add_i64 _ (by omega)) ?_ | refine opv_run (addI _ _ _ _) ?_
      first | refine opv_run (conv_i32 (by kernel_rfl) (by kernel_rfl) (by omega)) ?_ | refine opv_run (convII (k := .i32) (by kernel_rfl) (by kernel_rfl)) ?_
      refine opv_run (convIS (by kernel_rfl) (by kernel_rfl)) ?_
      first | exact ⟨by rw [Gs.sign1_st (by assumption), Gs.enc32], hF⟩ | exact ⟨by rw [Gs.sign1_ge (by rw [Bool.not_eq_true]; assumption) (by assumption)], hF⟩ | exact ⟨by rw [Gs.sign1_on (by rw [Bool.not_eq_true]; assumption) (by rw [Bool.not_eq_true]; assumption) (by assumption)], hF⟩ | exact ⟨by rw [Gs.sign1_no (by rw [Bool.not_eq_true]; assumption) (by rw [Bool.not_eq_true]; assumption) (by assumption), Gs.enc32], hF⟩
    · refine condf ?_
      refine opv_run (fieldAt_eq (off := 0) (by kernel_rfl)) ?_
      refine opv_run (ldC (by kernel_rfl) h_b1 (by rfl)) ?_
      refine callF_bool (c_greenscreenref01_Seen) (fun w6 U6 h6 => ?_) (fun w6 U6 h6 => ?_)
      · replace h_b1 := U6.get0 h_b1
        replace hF := hF.go0 U6
        try simp only [decide_eq_true_eq, decide_eq_false_iff_not] at h6
        refine opv_run (notT) ?_
        refine condf ?_
        refine opv_run (fieldAt_eq (off := 0) (by kernel_rfl)) ?_
        refine opv_run (ldC (by kernel_rfl) h_b1 (by rfl)) ?_
        refine callF_val (c_greenscreenref01_Sign) (fun w7 U7 => ?_)
        replace h_b1 := U7.get0 h_b1
        replace hF := hF.go0 U7
        refine opv_run (convIS (by kernel_rfl) (by kernel_rfl)) ?_
        first | exact ⟨by rw [Gs.sign1_st (by assumption), Gs.enc32], hF⟩ | exact ⟨by rw [Gs.sign1_ge (by rw [Bool.not_eq_true]; assumption) (by assumption)], hF⟩ | exact ⟨by rw [Gs.sign1_on (by rw [Bool.not_eq_true]; assumption) (by rw [Bool.not_eq_true]; assumption) (by assumption)], hF⟩ | exact ⟨by rw [Gs.sign1_no (by rw [Bool.not_eq_true]; assumption) (by rw [Bool.not_eq_true]; assumption) (by assumption), Gs.enc32], hF⟩
      · replace h_b1 := U6.get0 h_b1
        replace hF := hF.go0 U6
        try simp only [decide_eq_true_eq, decide_eq_false_iff_not] at h6
        refine opv_run (notF) ?_
        refine condt ?_
        first | exact ⟨by rw [Gs.sign1_st (by assumption), Gs.enc32], hF⟩ | exact ⟨by rw [Gs.sign1_ge (by rw [Bool.not_eq_true]; assumption) (by assumption)], hF⟩ | exact ⟨by rw [Gs.sign1_on (by rw [Bool.not_eq_true]; assumption) (by rw [Bool.not_eq_true]; assumption) (by assumption)], hF⟩ | exact ⟨by rw [Gs.sign1_no (by rw [Bool.not_eq_true]; assumption) (by rw [Bool.not_eq_true]; assumption) (by assumption), Gs.enc32], hF⟩

/-- (*greenscreen/plane.Plane).signs -/
theorem c_Plane_signs {r c cur : Int} {A : Option Addr} {n cp bp B0 : Nat} {cs : List Gs.Cell} {w : World} (h_bp : w.heap[bp]? = some (.cells #[.int .i64 r, .int .i64 c, .slice A n cp, .int .i64 cur] 102 (0, 0))) (own_p : Own B0 w 45 5 (.slice A n cp) (rows Gs.cv cs)) (hn : n = cs.length) {page f : Int} {m : Nat} (hcw : Gs.Cws cs) (hp : 0 < n) (hb : n ≤ 4096) (hf0 : 0 ≤ f) (hf1 : f ≤ 4096) (hm : m ≤ 4096) :
    Calls Try.prog 57 #[.pointer (some ⟨bp, 0, none⟩), .int .i64 page, .int .i64 f, .int .i64 (m : Nat)] w fun e w' => ∃ v, e = .returned v ∧ Own w.heap.size w' 21 1 v (vals .i32 (Gs.sgl page cs f m)) ∧ Upd no w w' := by
  refine F57.calls ?_
  unfold F57
  have lt_h_bp := lt_get h_bp
  have lt_own_p := Own.lt own_p
  have hF : Upd no w w := Fr.refl _ _ _
  refine callF_val (c_code_Table) (fun w1 U1 => ?_)
  replace own_p := own_p.upd0 U1
  replace h_bp := U1.get0 h_bp
  replace hF := hF.go0 U1
  refine alloc_intro (cs := (vals .i32 (List.replicate 256 0)).toArray) (by kernel_rfl) (fun b2 w2 e2 h_b2 _ U2 => ?_)
  have ne_bp_b2 : bp ≠ b2 := by have := lt_get h_bp; omega
  have na_own_p_b2 := own_p.apart e2
  have ge_b2 : w.heap.size ≤ b2 := by have := hF.size; omega
  replace own_p := own_p.upd0 U2
  replace h_bp := U2.get0 h_bp
  replace hF := hF.go0 U2
  clear e2
  refine storeAll_intro (n := 256) (by kernel_rfl) (by first | rfl | simp [vals_length, *]) (by first | rfl | simp [vals_length, *]) (by first | exact vals_one | assumption) h_b2 (fun w3 N3 _ U3 => ?_)
  replace own_p := own_p.upd1 U3 na_own_p_b2
  replace h_bp := U3.get1 h_bp ne_bp_b2
  replace h_b2 := N3
  replace hF := hF.go1 U3 ge_b2
  refine join_cut (fun g w' => ∃ (v9 : Value), (g 9 = v9) ∧ (Own w.heap.size w' 21 1 v9 (vals .i32 (Gs.sgl page cs f m))) ∧ (Upd no w w')) (fun J1 hJ1 => ?_) (fun gJ1 wJ1 hI => ?_)
  · refine loop_intro (fun g w' => ∃ (k : Nat) (v9 : Value), (g 16 = .int .i64 (k : Int)) ∧ (k ≤ m) ∧ (g 9 = v9) ∧ (Own w.heap.size w' 21 1 v9 (vals .i32 (Gs.sgl page cs f k))) ∧ (w'.heap[b2]? = some (.cells (vals .i32 (Gs.tab page)).toArray 118 (0, 0))) ∧ (w'.heap[bp]? = some (.cells #[.int .i64 r, .int .i64 c, .slice A n cp, .int .i64 cur] 102 (0, 0))) ∧ (Own B0 w' 45 5 (.slice A n cp) (rows Gs.cv cs)) ∧ (Upd no w w')) (fun g w' => m - (RowKit.intOf (g 16)).toNat) ?_ (fun g2 wl2 hI => ?_)
    · exact ⟨0, _, (by first | exact g16 | rfl), Nat.zero_le _, (by first | exact g9 | rfl), (Own.nil _ _ _ _), h_b2, h_bp, own_p, hF⟩
    · obtain ⟨k, v9, g16, hk, g9, own9, h_b2, h_bp, own_p, hF⟩ := hI
      try rw [g16]
      try rw [g9]
      have hm0 := Int.emod_nonneg (f + k) (show (n : Int) ≠ 0 by omega)
      have hm1 := Int.emod_lt_of_pos (f + k) (show 0 < (n : Int) by omega)
      have l_tab := Gs.tab_length page
      have hln := Gs.sgl_len page cs f k
      refine opv_dec (lss _ _ _ _) (fun h4 => ?_) (fun h4 => ?_)
      · refine condt ?_
        refine join_cut (fun g w' => ∃ (v9 : Value), (g 9 = v9) ∧ (Own w.heap.size w' 21 1 v9 (vals .i32 (Gs.sgl page cs f (k + 1)))) ∧ (w'.heap[b2]? = some (.cells (vals .i32 (Gs.tab page)).toArray 118 (0, 0))) ∧ (w'.heap[bp]? = some (.cells #[.int .i64 r, .int .i64 c, .slice A n cp, .int .i64 cur] 102 (0, 0))) ∧ (Own B0 w' 45 5 (.slice A n cp) (rows Gs.cv cs)) ∧ (Upd no w w')) (fun J3 hJ3 => ?_) (fun gJ3 wJ3 hI => ?_)
        · refine drawn_S (S := no) (fun w5 U5 => ?_)
          replace own9 := own9.upd0 U5
          replace own_p := own_p.upd0 U5
          replace h_b2 := U5.get0 h_b2
          replace h_bp := U5.get0 h_bp
          replace hF := hF.go0 U5
          refine qnilckp ?_
          refine qop_run (fun w' hw' => (fieldAt_eq (off := 2) (by kernel_rfl))) ?_
          refine qop_run (fun w' hw' => by have h_bp := hw'.get0 h_bp; exact (ldC (by kernel_rfl) h_bp (by rfl))) ?_
          first | refine qop_run (fun w' hw' => (add_i64 _ (by omega))) ?_ | refine qop_run (fun w' hw' => (addI _ _ _ _)) ?_
          refine qnilckp ?_
          refine qop_run (fun w' hw' => (fieldAt_eq (off := 2) (by kernel_rfl))) ?_
          refine qop_run (fun w' hw' => by have h_bp := hw'.get0 h_bp; exact (ldC (by kernel_rfl) h_bp (by rfl))) ?_
          refine qop_run (fun w' hw' => (len_sl (by kernel_rfl) _ _ _)) ?_
          refine qop_run (fun w' hw' => (remN _ (by omega) (by omega) (by omega))) ?_
          refine qidx Gs.encC (by kernel_rfl) (by kernel_rfl) (fun w' hw' => (own_p.upd0 hw').rdS) (Fr.refl _ _ _) (by first | rfl | assumption | omega) (by omega) (by omega) (fun x6 hx6 => ?_)
          try simp only [Int.toNat_natCast] at hx6
          have hxb := hcw.get hx6
          refine ext_intro (fun w7 U7 => ?_)
          replace own9 := own9.upd0 U7
          replace own_p := own_p.upd0 U7
          replace h_b2 := U7.get0 h_b2
          replace h_bp := U7.get0 h_bp
          replace hF := hF.go0 U7
          refine lop_i ?_
          refine alloc_intro (cs := (Gs.cv Gs.zc).toArray) (by kernel_rfl) (fun b8 w8 e8 h_b8 _ U8 => ?_)
          have na_own9_b8 := own9.apart e8
          have ne_b2_b8 : b2 ≠ b8 := by have := lt_get h_b2; omega
          have ne_bp_b8 : bp ≠ b8 := by have := lt_get h_bp; omega
          have na_own_p_b8 := own_p.apart e8
          have ge_b8 : w.heap.size ≤ b8 := by have := hF.size; omega
          replace own9 := own9.upd0 U8
          replace own_p := own_p.upd0 U8
          replace h_b2 := U8.get0 h_b2
          replace h_bp := U8.get0 h_bp
          replace hF := hF.go0 U8
          clear e8
          refine ⟨U8, ?_⟩
          refine ext_intro (fun w9 U9 => ?_)
          replace own9 := own9.upd0 U9
          replace own_p := own_p.upd0 U9
          replace h_b2 := U9.get0 h_b2
          replace h_bp := U9.get0 h_bp
          replace h_b8 := U9.get0 h_b8
          replace hF := hF.go0 U9
          refine store_intro (n := 5) (cs' := (Gs.cv x6).toArray) (by kernel_rfl) (by rfl) (by first | rfl | (simp [Value.cells, Value.oneCell', Gs.cv]; done)) h_b8 (by first | exact Nat.le_of_ble_eq_true rfl | (simp; done) | omega) (by rfl) (fun w10 N10 _ U10 => ?_)
          replace own9 := own9.upd1 U10 na_own9_b8
          replace own_p := own_p.upd1 U10 na_own_p_b8
          replace h_b2 := U10.get1 h_b2 ne_b2_b8
          replace h_bp := U10.get1 h_bp ne_bp_b8
          replace h_b8 := N10
          replace hF := hF.go1 U10 ge_b8
          refine ext_intro (fun w11 U11 => ?_)
          replace own9 := own9.upd0 U11
          replace own_p := own_p.upd0 U11
          replace h_b2 := U11.get0 h_b2
          replace h_bp := U11.get0 h_bp
          replace h_b8 := U11.get0 h_b8
          replace hF := hF.go0 U11
          refine opv_run (fieldAt_eq (off := 2) (by kernel_rfl)) ?_
          refine opv_b (ldC (by kernel_rfl) h_b8 (by rfl)) (fun h12 => ?_) (fun h12 => ?_)
          · refine gdtf ?_
            refine gdtf ?_
            refine gdtf ?_
            refine gdtf ?_
            refine gdun ?_
            refine gdun ?_
            refine gdun ?_
            refine gdun ?_
            refine gdtf ?_
            refine pickt ?_
            refine condt ?_
            refine buildSlice_intro (e := 21) (m := 1) (z := #[.int .i32 0]) (by kernel_rfl) (by kernel_rfl) (by rfl) (by decide) (by first | (simp [fillL, splice, repL, Value.cells]; done) | (simp [fillL, splice, repL, Value.cells]; rfl)) (fun b13 w13 e13 h_b13 _ U13 => ?_)
            have na_own9_b13 := own9.apart e13
            have ne_b2_b13 : b2 ≠ b13 := by have := lt_get h_b2; omega
            have ne_bp_b13 : bp ≠ b13 := by have := lt_get h_bp; omega
            have na_own_p_b13 := own_p.apart e13
            have ne_b8_b13 : b8 ≠ b13 := by have := lt_get h_b8; omega
            have ge_b13 : w.heap.size ≤ b13 := by have := hF.size; omega
            replace own9 := own9.upd0 U13
            replace own_p := own_p.upd0 U13
            replace h_b2 := U13.get0 h_b2
            replace h_bp := U13.get0 h_bp
            replace h_b8 := U13.get0 h_b8
            replace hF := hF.go0 U13
            clear e13
            refine app_intro (e := 21) (size := 1) (bytes := 4) (by kernel_rfl) own9 (Rd.of_blockL h_b13) rfl (by first | (simp [Value.oneCell']; done) | (intro u hu; simp only [List.mem_singleton] at hu; subst hu; rfl) | (simp; intros; subst_vars; rfl)) (by simp only [vals_length, List.length_take, List.length_cons, List.length_nil, List.length_append, List.length_map, List.length_range]; omega) (by have := hF.size; omega) (fun v14 w14 N14 U14 => ?_)
            have own9_o := own9
            replace own9 := N14
            replace h_b2 := U14.get h_b2 (fun h => by first | (have := Own.ge own9_o h; omega) | exact Own.ne_blk own9_o h_b2 (by decide) _ h rfl | exact Own.not_loop own9_o h_b2 (by assumption) _ h rfl | exact Own.not_def own9_o h_b2 _ h rfl | simp_all)
            replace h_bp := U14.get h_bp (fun h => by first | (have := Own.ge own9_o h; omega) | exact Own.ne_blk own9_o h_bp (by decide) _ h rfl | exact Own.not_loop own9_o h_bp (by assumption) _ h rfl | exact Own.not_def own9_o h_bp _ h rfl | simp_all)
            replace own_p := own_p.updS U14 (fun k hk hs => by have := lt_own_p k hk; have := (Own.ge own9_o hs).1; omega)
            replace h_b8 := U14.get h_b8 (fun h => na_own9_b8 _ h rfl)
            replace h_b13 := U14.get h_b13 (fun h => na_own9_b13 _ h rfl)
            replace hF := hF.go U14 (fun i h hs => by first | exact hs | exact .inl hs | exact .inr hs | (have := (Own.ge own9_o hs).1; omega))
            clear own9_o
            refine hJ3 _ _ ?_
            exact ⟨_, (by first | exact g9 | rfl), (by rw [Gs.sgl_step, Gs.cellAt_eq hn hx6]; first | (rw [Gs.sign1_st (by assumption)]; exact own_snoc own9) | (rw [Gs.sign1_ge (by rw [Bool.not_eq_true]; assumption) (by assumption)]; exact own_snoc own9) | (rw [Gs.sign1_no (by rw [Bool.not_eq_true]; assumption) (by rw [Bool.not_eq_true]; assumption) (by assumption)]; exact own_snoc own9) | (rw [Gs.sign1_on (by rw [Bool.not_eq_true]; assumption) (by rw [Bool.not_eq_true]; assumption) (by assumption), ← Gs.tab_atI (by omega) hx?]; exact own_snoc own9) | cases (Eq.trans (Eq.symm (by assumption : x6.ge = true)) (by assumption : x6.ge = false))), h_b2, h_bp, own_p, hF⟩
          · refine gdff ?_
            refine opv_run (fieldAt_eq (off := 1) (by kernel_rfl)) ?_
            refine gdff ?_
            refine opv_b (ldC (by kernel_rfl) h_b8 (by rfl)) (fun h15 => ?_) (fun h15 => ?_)
            · refine gdff ?_
              refine opv_run (notT) ?_
              refine gdff ?_
              refine gdft ?_
              refine gdft ?_
              refine gdft ?_
              refine gdft ?_
              refine gdff ?_
              refine pickf ?_
              refine pickf ?_
              refine condf ?_
              refine opv_run (fieldAt_eq (off := 1) (by kernel_rfl)) ?_
              refine opv_b (ldC (by kernel_rfl) h_b8 (by rfl)) (fun h16 => ?_) (fun h16 => ?_)
              · refine condt ?_
                refine opv_run (fieldAt_eq (off := 0) (by kernel_rfl)) ?_
                refine opv_run (ldC (by kernel_rfl) h_b8 (by rfl)) ?_
                refine callF_val (c_code_Special) (fun w17 U17 => ?_)
                replace own9 := own9.upd0 U17
                replace own_p := own_p.upd0 U17
                replace h_b2 := U17.get0 h_b2
                replace h_bp := U17.get0 h_bp
                replace h_b8 := U17.get0 h_b8
                replace hF := hF.go0 U17
                refine buildSlice_intro (e := 21) (m := 1) (z := #[.int .i32 0]) (by kernel_rfl) (by kernel_rfl) (by rfl) (by decide) (by first | (simp [fillL, splice, repL, Value.cells]; done) | (simp [fillL, splice, repL, Value.cells]; rfl)) (fun b18 w18 e18 h_b18 _ U18 => ?_)
                have na_own9_b18 := own9.apart e18
                have ne_b2_b18 : b2 ≠ b18 := by have := lt_get h_b2; omega
                have ne_bp_b18 : bp ≠ b18 := by have := lt_get h_bp; omega
                have na_own_p_b18 := own_p.apart e18
                have ne_b8_b18 : b8 ≠ b18 := by have := lt_get h_b8; omega
                have ge_b18 : w.heap.size ≤ b18 := by have := hF.size; omega
                replace own9 := own9.upd0 U18
                replace own_p := own_p.upd0 U18
                replace h_b2 := U18.get0 h_b2
                replace h_bp := U18.get0 h_bp
                replace h_b8 := U18.get0 h_b8
                replace hF := hF.go0 U18
                clear e18
                refine app_intro (e := 21) (size := 1) (bytes := 4) (by kernel_rfl) own9 (Rd.of_blockL h_b18) rfl (by first | (simp [Value.oneCell']; done) | (intro u hu; simp only [List.mem_singleton] at hu; subst hu; rfl) | (simp; intros; subst_vars; rfl)) (by simp only [vals_length, List.length_take, List.length_cons, List.length_nil, List.length_append, List.length_map, List.length_range]; omega) (by have := hF.size; omega) (fun v19 w19 N19 U19 => ?_)
                have own9_o := own9
                replace own9 := N19
                replace h_b2 := U19.get h_b2 (fun h => by first | (have := Own.ge own9_o h; omega) | exact Own.ne_blk own9_o h_b2 (by decide) _ h rfl | exact Own.not_loop own9_o h_b2 (by assumption) _ h rfl | exact Own.not_def own9_o h_b2 _ h rfl | simp_all)
                replace h_bp := U19.get h_bp (fun h => by first | (have := Own.ge own9_o h; omega) | exact Own.ne_blk own9_o h_bp (by decide) _ h rfl | exact Own.not_loop own9_o h_bp (by assumption) _ h rfl | exact Own.not_def own9_o h_bp _ h rfl | simp_all)
                replace own_p := own_p.updS U19 (fun k hk hs => by have := lt_own_p k hk; have := (Own.ge own9_o hs).1; omega)
                replace h_b8 := U19.get h_b8 (fun h => na_own9_b8 _ h rfl)
                replace h_b18 := U19.get h_b18 (fun h => na_own9_b18 _ h rfl)
                replace hF := hF.go U19 (fun i h hs => by first | exact hs | exact .inl hs | exact .inr hs | (have := (Own.ge own9_o hs).1; omega))
                clear own9_o
                refine hJ3 _ _ ?_
                exact ⟨_, (by first | exact g9 | rfl), (by rw [Gs.sgl_step, Gs.cellAt_eq hn hx6]; first | (rw [Gs.sign1_st (by assumption)]; exact own_snoc own9) | (rw [Gs.sign1_ge (by rw [Bool.not_eq_true]; assumption) (by assumption)]; exact own_snoc own9) | (rw [Gs.sign1_no (by rw [Bool.not_eq_true]; assumption) (by rw [Bool.not_eq_true]; assumption) (by assumption)]; exact own_snoc own9) | (rw [Gs.sign1_on (by rw [Bool.not_eq_true]; assumption) (by rw [Bool.not_eq_true]; assumption) (by assumption), ← Gs.tab_atI (by omega) hx?]; exact own_snoc own9) | cases (Eq.trans (Eq.symm (by assumption : x6.ge = true)) (by assumption : x6.ge = false))), h_b2, h_bp, own_p, hF⟩
              · refine condf ?_
                refine opv_run (fieldAt_eq (off := 0) (by kernel_rfl)) ?_
                refine opv_run (ldC (by kernel_rfl) h_b8 (by rfl)) ?_
                refine idx_arrint (n := 256) (by kernel_rfl) (by kernel_rfl) h_b2 (by first | assumption | (simp [*]; done)) (by omega) (by omega) (fun x20 hx20 => ?_)
                try simp only [Int.toNat_natCast] at hx20
                refine buildSlice_intro (e := 21) (m := 1) (z := #[.int .i32 0]) (by kernel_rfl) (by kernel_rfl) (by rfl) (by decide) (by first | (simp [fillL, splice, repL, Value.cells]; done) | (simp [fillL, splice, repL, Value.cells]; rfl)) (fun b21 w21 e21 h_b21 _ U21 => ?_)
                have na_own9_b21 := own9.apart e21
                have ne_b2_b21 : b2 ≠ b21 := by have := lt_get h_b2; omega
                have ne_bp_b21 : bp ≠ b21 := by have := lt_get h_bp; omega
                have na_own_p_b21 := own_p.apart e21
                have ne_b8_b21 : b8 ≠ b21 := by have := lt_get h_b8; omega
                have ge_b21 : w.heap.size ≤ b21 := by have := hF.size; omega
                replace own9 := own9.upd0 U21
                replace own_p := own_p.upd0 U21
                replace h_b2 := U21.get0 h_b2
                replace h_bp := U21.get0 h_bp
                replace h_b8 := U21.get0 h_b8
                replace hF := hF.go0 U21
                clear e21
                refine app_intro (e := 21) (size := 1) (bytes := 4) (by kernel_rfl) own9 (Rd.of_blockL h_b21) rfl (by first | (simp [Value.oneCell']; done) | (intro u hu; simp only [List.mem_singleton] at hu; subst hu; rfl) | (simp; intros; subst_vars; rfl)) (by simp only [vals_length, List.length_take, List.length_cons, List.length_nil, List.length_append, List.length_map, List.length_range]; omega) (by have := hF.size; omega) (fun v22 w22 N22 U22 => ?_)
                have own9_o := own9
                replace own9 := N22
                replace h_b2 := U22.get h_b2 (fun h => by first | (have := Own.ge own9_o h; omega) | exact Own.ne_blk own9_o h_b2 (by decide) _ h rfl | exact Own.not_loop own9_o h_b2 (by assumption) _ h rfl | exact Own.not_def own9_o h_b2 _ h rfl | simp_all)
                replace h_bp := U22.get h_bp (fun h => by first | (have := Own.ge own9_o h; omega) | exact Own.ne_blk own9_o h_bp (by decide) _ h rfl | exact Own.not_loop own9_o h_bp (by assumption) _ h rfl | exact Own.not_def own9_o h_bp _ h rfl | simp_all)
                replace own_p := own_p.updS U22 (fun k hk hs => by have := lt_own_p k hk; have := (Own.ge own9_o hs).1; omega)
                replace h_b8 := U22.get h_b8 (fun h => na_own9_b8 _ h rfl)
                replace h_b21 := U22.get h_b21 (fun h => na_own9_b21 _ h rfl)
                replace hF := hF.go U22 (fun i h hs => by first | exact hs | exact .inl hs | exact .inr hs | (have := (Own.ge own9_o hs).1; omega))
                clear own9_o
                refine hJ3 _ _ ?_
                exact ⟨_, (by first | exact g9 | rfl), (by rw [Gs.sgl_step, Gs.cellAt_eq hn hx6]; first | (rw [Gs.sign1_st (by assumption)]; exact own_snoc own9) | (rw [Gs.sign1_ge (by rw [Bool.not_eq_true]; assumption) (by assumption)]; exact own_snoc own9) | (rw [Gs.sign1_no (by rw [Bool.not_eq_true]; assumption) (by rw [Bool.not_eq_true]; assumption) (by assumption)]; exact own_snoc own9) | (rw [Gs.sign1_on (by rw [Bool.not_eq_true]; assumption) (by rw [Bool.not_eq_true]; assumption) (by assumption), ← Gs.tab_atI (by omega) hx20]; exact own_snoc own9) | cases (Eq.trans (Eq.symm (by assumption : x6.ge = true)) (by assumption : x6.ge = false))), h_b2, h_bp, own_p, hF⟩
            · refine gdff ?_
              refine opv_run (notF) ?_
              refine gdff ?_
              refine gdtt ?_
              refine opv_run (fieldAt_eq (off := 0) (by kernel_rfl)) ?_
              refine gdtt ?_
              refine opv_run (ldC (by kernel_rfl) h_b8 (by rfl)) ?_
              refine gdtt ?_
              refine callF_bool (c_code_Graphic) (fun w23 U23 h23 => ?_) (fun w23 U23 h23 => ?_)
              · replace own9 := own9.upd0 U23
                replace own_p := own_p.upd0 U23
                replace h_b2 := U23.get0 h_b2
                replace h_bp := U23.get0 h_bp
                replace h_b8 := U23.get0 h_b8
                replace hF := hF.go0 U23
                try simp only [decide_eq_true_eq, decide_eq_false_iff_not] at h23
                refine gdtt ?_
                refine opv_run (notT) ?_
                refine gdff ?_
                refine pickt ?_
                refine pickf ?_
                refine condf ?_
                refine opv_run (fieldAt_eq (off := 1) (by kernel_rfl)) ?_
                refine opv_b (ldC (by kernel_rfl) h_b8 (by rfl)) (fun h24 => ?_) (fun h24 => ?_)
                · refine condt ?_
                  refine opv_run (fieldAt_eq (off := 0) (by kernel_rfl)) ?_
                  refine opv_run (ldC (by kernel_rfl) h_b8 (by rfl)) ?_
                  refine callF_val (c_code_Special) (fun w25 U25 => ?_)
                  replace own9 := own9.upd0 U25
                  replace own_p := own_p.upd0 U25
                  replace h_b2 := U25.get0 h_b2
                  replace h_bp := U25.get0 h_bp
                  replace h_b8 := U25.get0 h_b8
                  replace hF := hF.go0 U25
                  refine buildSlice_intro (e := 21) (m := 1) (z := #[.int .i32 0]) (by kernel_rfl) (by kernel_rfl) (by rfl) (by decide) (by first | (simp [fillL, splice, repL, Value.cells]; done) | (simp [fillL, splice, repL, Value.cells]; rfl)) (fun b26 w26 e26 h_b26 _ U26 => ?_)
                  have na_own9_b26 := own9.apart e26
                  have ne_b2_b26 : b2 ≠ b26 := by have := lt_get h_b2; omega
                  have ne_bp_b26 : bp ≠ b26 := by have := lt_get h_bp; omega
                  have na_own_p_b26 := own_p.apart e26
                  have ne_b8_b26 : b8 ≠ b26 := by have := lt_get h_b8; omega
                  have ge_b26 : w.heap.size ≤ b26 := by have := hF.size; omega
                  replace own9 := own9.upd0 U26
                  replace own_p := own_p.upd0 U26
                  replace h_b2 := U26.get0 h_b2
                  replace h_bp := U26.get0 h_bp
                  replace h_b8 := U26.get0 h_b8
                  replace hF := hF.go0 U26
                  clear e26
                  refine app_intro (e := 21) (size := 1) (bytes := 4) (by kernel_rfl) own9 (Rd.of_blockL h_b26) rfl (by first | (simp [Value.oneCell']; done) | (intro u hu; simp only [List.mem_singleton] at hu; subst hu; rfl) | (simp; intros; subst_vars; rfl)) (by simp only [vals_length, List.length_take, List.length_cons, List.length_nil, List.length_append, List.length_map, List.length_range]; omega) (by have := hF.size; omega) (fun v27 w27 N27 U27 => ?_)
                  have own9_o := own9
                  replace own9 := N27
                  replace h_b2 := U27.get h_b2 (fun h => by first | (have := Own.ge own9_o h; omega) | exact Own.ne_blk own9_o h_b2 (by decide) _ h rfl | exact Own.not_loop own9_o h_b2 (by assumption) _ h rfl | exact Own.not_def own9_o h_b2 _ h rfl | simp_all)
                  replace h_bp := U27.get h_bp (fun h => by first | (have := Own.ge own9_o h; omega) | exact Own.ne_blk own9_o h_bp (by decide) _ h rfl | exact Own.not_loop own9_o h_bp (by assumption) _ h rfl | exact Own.not_def own9_o h_bp _ h rfl | simp_all)
                  replace own_p := own_p.updS U27 (fun k hk hs => by have := lt_own_p k hk; have := (Own.ge own9_o hs).1; omega)
                  replace h_b8 := U27.get h_b8 (fun h => na_own9_b8 _ h rfl)
                  replace h_b26 := U27.get h_b26 (fun h => na_own9_b26 _ h rfl)
                  replace hF := hF.go U27 (fun i h hs => by first | exact hs | exact .inl hs | exact .inr hs | (have := (Own.ge own9_o hs).1; omega))
                  clear own9_o
                  refine hJ3 _ _ ?_
                  exact ⟨_, (by first | exact g9 | rfl), (by rw [Gs.sgl_step, Gs.cellAt_eq hn hx6]; first | (rw [Gs.sign1_st (by assumption)]; exact own_snoc own9) | (rw [Gs.sign1_ge (by rw [Bool.not_eq_true]; assumption) (by assumption)]; exact own_snoc own9) | (rw [Gs.sign1_no (by rw [Bool.not_eq_true]; assumption) (by rw [Bool.not_eq_true]; assumption) (by assumption)]; exact own_snoc own9) | (rw [Gs.sign1_on (by rw [Bool.not_eq_true]; assumption) (by rw [Bool.not_eq_true]; assumption) (by assumption), ← Gs.tab_atI (by omega) hx20]; exact own_snoc own9) | cases (Eq.trans (Eq.symm (by assumption : x6.ge = true)) (by assumption : x6.ge = false))), h_b2, h_bp, own_p, hF⟩
                · refine condf ?_
                  refine opv_run (fieldAt_eq (off := 0) (by kernel_rfl)) ?_
                  refine opv_run (ldC (by kernel_rfl) h_b8 (by rfl)) ?_
                  refine idx_arrint (n := 256) (by kernel_rfl) (by kernel_rfl) h_b2 (by first | assumption | (simp [*]; done)) (by omega) (by omega) (fun x28 hx28 => ?_)
                  try simp only [Int.toNat_natCast] at hx28
                  refine buildSlice_intro (e := 21) (m := 1) (z := #[.int .i32 0]) (by kernel_rfl) (by kernel_rfl) (by rfl) (by decide) (by first | (simp [fillL, splice, repL, Value.cells]; done) | (simp [fillL, splice, repL, Value.cells]; rfl)) (fun b29 w29 e29 h_b29 _ U29 => ?_)
                  have na_own9_b29 := own9.apart e29
                  have ne_b2_b29 : b2 ≠ b29 := by have := lt_get h_b2; omega
                  have ne_bp_b29 : bp ≠ b29 := by have := lt_get h_bp; omega
                  have na_own_p_b29 := own_p.apart e29
                  have ne_b8_b29 : b8 ≠ b29 := by have := lt_get h_b8; omega
                  have ge_b29 : w.heap.size ≤ b29 := by have := hF.size; omega
                  replace own9 := own9.upd0 U29
                  replace own_p := own_p.upd0 U29
                  replace h_b2 := U29.get0 h_b2
                  replace h_bp := U29.get0 h_bp
                  replace h_b8 := U29.get0 h_b8
                  replace hF := hF.go0 U29
                  clear e29
                  refine app_intro (e := 21) (size := 1) (bytes := 4) (by kernel_rfl) own9 (Rd.of_blockL h_b29) rfl (by first | (simp [Value.oneCell']; done) | (intro u hu; simp only [List.mem_singleton] at hu; subst hu; rfl) | (simp; intros; subst_vars; rfl)) (by simp only [vals_length, List.length_take, List.length_cons, List.length_nil, List.length_append, List.length_map, List.length_range]; omega) (by have := hF.size; omega) (fun v30 w30 N30 U30 => ?_)
                  have own9_o := own9
                  replace own9 := N30
                  replace h_b2 := U30.get h_b2 (fun h => by first | (have := Own.ge own9_o h; omega) | exact Own.ne_blk own9_o h_b2 (by decide) _ h rfl | exact Own.not_loop own9_o h_b2 (by assumption) _ h rfl | exact Own.not_def own9_o h_b2 _ h rfl | simp_all)
                  replace h_bp := U30.get h_bp (fun h => by first | (have := Own.ge own9_o h; omega) | exact Own.ne_blk own9_o h_bp (by decide) _ h rfl | exact Own.not_loop own9_o h_bp (by assumption) _ h rfl | exact Own.not_def own9_o h_bp _ h rfl | simp_all)
                  replace own_p := own_p.updS U30 (fun k hk hs => by have := lt_own_p k hk; have := (Own.ge own9_o hs).1; omega)
                  replace h_b8 := U30.get h_b8 (fun h => na_own9_b8 _ h rfl)
                  replace h_b29 := U30.get h_b29 (fun h => na_own9_b29 _ h rfl)
                  replace hF := hF.go U30 (fun i h hs => by first | exact hs | exact .inl hs | exact .inr hs | (have := (Own.ge own9_o hs).1; omega))
                  clear own9_o
                  refine hJ3 _ _ ?_
                  exact ⟨_, (by first | exact g9 | rfl), (by rw [Gs.sgl_step, Gs.cellAt_eq hn hx6]; first | (rw [Gs.sign1_st (by assumption)]; exact own_snoc own9) | (rw [Gs.sign1_ge (by rw [Bool.not_eq_true]; assumption) (by assumption)]; exact own_snoc own9) | (rw [Gs.sign1_no (by rw [Bool.not_eq_true]; assumption) (by rw [Bool.not_eq_true]; assumption) (by assumption)]; exact own_snoc own9) | (rw [Gs.sign1_on (by rw [Bool.not_eq_true]; assumption) (by rw [Bool.not_eq_true]; assumption) (by assumption), ← Gs.tab_atI (by omega) hx28]; exact own_snoc own9) | cases (Eq.trans (Eq.symm (by assumption : x6.ge = true)) (by assumption : x6.ge = false))), h_b2, h_bp, own_p, hF⟩
              · replace own9 := own9.upd0 U23
                replace own_p := own_p.upd0 U23
                replace h_b2 := U23.get0 h_b2
                replace h_bp := U23.get0 h_bp
                replace h_b8 := U23.get0 h_b8
                replace hF := hF.go0 U23
                try simp only [decide_eq_true_eq, decide_eq_false_iff_not] at h23
                refine gdtt ?_
                refine opv_run (notF) ?_
                refine gdff ?_
                refine pickt ?_
                refine pickf ?_
                refine condt ?_
                refine buildSlice_intro (e := 21) (m := 1) (z := #[.int .i32 0]) (by kernel_rfl) (by kernel_rfl) (by rfl) (by decide) (by first | (simp [fillL, splice, repL, Value.cells]; done) | (simp [fillL, splice, repL, Value.cells]; rfl)) (fun b31 w31 e31 h_b31 _ U31 => ?_)
                have na_own9_b31 := own9.apart e31
                have ne_b2_b31 : b2 ≠ b31 := by have := lt_get h_b2; omega
                have ne_bp_b31 : bp ≠ b31 := by have := lt_get h_bp; omega
                have na_own_p_b31 := own_p.apart e31
                have ne_b8_b31 : b8 ≠ b31 := by have := lt_get h_b8; omega
                have ge_b31 : w.heap.size ≤ b31 := by have := hF.size; omega
                replace own9 := own9.upd0 U31
                replace own_p := own_p.upd0 U31
                replace h_b2 := U31.get0 h_b2
                replace h_bp := U31.get0 h_bp
                replace h_b8 := U31.get0 h_b8
                replace hF := hF.go0 U31
                clear e31
                refine app_intro (e := 21) (size := 1) (bytes := 4) (by kernel_rfl) own9 (Rd.of_blockL h_b31) rfl (by first | (simp [Value.oneCell']; done) | (intro u hu; simp only [List.mem_singleton] at hu; subst hu; rfl) | (simp; intros; subst_vars; rfl)) (by simp only [vals_length, List.length_take, List.length_cons, List.length_nil, List.length_append, List.length_map, List.length_range]; omega) (by have := hF.size; omega) (fun v32 w32 N32 U32 => ?_)
                have own9_o := own9
                replace own9 := N32
                replace h_b2 := U32.get h_b2 (fun h => by first | (have := Own.ge own9_o h; omega) | exact Own.ne_blk own9_o h_b2 (by decide) _ h rfl | exact Own.not_loop own9_o h_b2 (by assumption) _ h rfl | exact Own.not_def own9_o h_b2 _ h rfl | simp_all)
                replace h_bp := U32.get h_bp (fun h => by first | (have := Own.ge own9_o h; omega) | exact Own.ne_blk own9_o h_bp (by decide) _ h rfl | exact Own.not_loop own9_o h_bp (by assumption) _ h rfl | exact Own.not_def own9_o h_bp _ h rfl | simp_all)
                replace own_p := own_p.updS U32 (fun k hk hs => by have := lt_own_p k hk; have := (Own.ge own9_o hs).1; omega)
                replace h_b8 := U32.get h_b8 (fun h => na_own9_b8 _ h rfl)
                replace h_b31 := U32.get h_b31 (fun h => na_own9_b31 _ h rfl)
                replace hF := hF.go U32 (fun i h hs => by first | exact hs | exact .inl hs | exact .inr hs | (have := (Own.ge own9_o hs).1; omega))
                clear own9_o
                refine hJ3 _ _ ?_
                exact ⟨_, (by first | exact g9 | rfl), (by rw [Gs.sgl_step, Gs.cellAt_eq hn hx6]; first | (rw [Gs.sign1_st (by assumption)]; exact own_snoc own9) | (rw [Gs.sign1_ge (by rw [Bool.not_eq_true]; assumption) (by assumption)]; exact own_snoc own9) | (rw [Gs.sign1_no (by rw [Bool.not_eq_true]; assumption) (by rw [Bool.not_eq_true]; assumption) (by assumption)]; exact own_snoc own9) | (rw [Gs.sign1_on (by rw [Bool.not_eq_true]; assumption) (by rw [Bool.not_eq_true]; assumption) (by assumption), ← Gs.tab_atI (by omega) hx28]; exact own_snoc own9) | cases (Eq.trans (Eq.symm (by assumption : x6.ge = true)) (by assumption : x6.ge = false))), h_b2, h_bp, own_p, hF⟩
        · obtain ⟨v9, g9, own9, h_b2, h_bp, own_p, hF⟩ := hI
          try rw [g9]
          first | refine opv_run (add_i64 _ (by omega)) ?_ | refine opv_run (addI _ _ _ _) ?_
          exact ⟨⟨k + 1, _, (by first | exact g16 | rfl), by omega, (by first | exact g9 | rfl), own9, h_b2, h_bp, own_p, hF⟩, cnt_lt (by first | rfl | exact g16) rfl (by omega)⟩
      · refine condf ?_
        refine hJ1 _ _ ?_
        exact ⟨_, (by first | exact g9 | rfl), (by rw [show m = k by omega]; exact own9), hF⟩
  · obtain ⟨v9, g9, own9, hF⟩ := hI
    try rw [g9]
    exact ⟨_, rfl, own9, hF⟩

/-- (*greenscreen/plane.Plane).Text -/
theorem c_Plane_Text {r c cur : Int} {A : Option Addr} {n cp bp B0 : Nat} {cs : List Gs.Cell} {w : World} (h_bp : w.heap[bp]? = some (.cells #[.int .i64 r, .int .i64 c, .slice A n cp, .int .i64 cur] 102 (0, 0))) (own_p : Own B0 w 45 5 (.slice A n cp) (rows Gs.cv cs)) (hn : n = cs.length) {page f m : Int} (hcw : Gs.Cws cs) (hp : 0 < n) (hb : n ≤ 4096) :
    Calls Try.prog 31 #[.pointer (some ⟨bp, 0, none⟩), .int .i64 page, .int .i64 f, .int .i64 m] w fun e w' => e = .returned (.string (Gs.textOf page cs f m)) ∧ Upd no w w' := by
  refine F31.calls ?_
  unfold F31
  have lt_h_bp := lt_get h_bp
  have lt_own_p := Own.lt own_p
  have hF : Upd no w w := Fr.refl _ _ _
  refine callF_bool (c_Plane_has h_bp own_p hn) (fun w1 U1 h1 => ?_) (fun w1 U1 h1 => ?_)
  · replace own_p := own_p.upd0 U1
    replace h_bp := U1.get0 h_bp
    replace hF := hF.go0 U1
    try simp only [decide_eq_true_eq, decide_eq_false_iff_not] at h1
    refine opv_run (notT) ?_
    refine condf ?_
    refine opv_run (maxI _ _ _ _ _) ?_
    refine nilckp ?_
    refine opv_run (fieldAt_eq (off := 2) (by kernel_rfl)) ?_
    refine opv_run (ldC (by kernel_rfl) h_bp (by rfl)) ?_
    refine opv_run (len_sl (by kernel_rfl) _ _ _) ?_
    refine opv_run (minI _ _ _ _ _) ?_
    rw [show (min (max m 0) (n : Int)) = ((min (max m 0) (n : Int)).toNat : Nat) by omega]
    refine callF_ex (c_Plane_signs h_bp own_p hn (m := (min (max m 0) (n : Int)).toNat) hcw hp hb (by omega) (by omega) (by omega)) (fun v2 w2 D2 => ?_)
    obtain ⟨own24, U2⟩ := D2
    have nx2_h_bp_own24 : ¬ ownS _ bp := fun h => by have := (Own.ge own24 h).1; have := lt_get h_bp; omega
    have nx2_own_p_own24 : ∀ k, ownS _ k → ¬ ownS _ k := fun k hk hs => by have := (Own.ge own_p hk).2; have := (Own.ge own24 hs).1; omega
    replace own24 := own24.mono (B' := w.heap.size) hF.size
    replace own_p := own_p.upd0 U2
    replace h_bp := U2.get0 h_bp
    replace hF := hF.go0 U2
    obtain ⟨A24, c24, rfl, rd24⟩ := own24.rd1
    refine opv_run (convRS (e := 21) (by kernel_rfl) (by kernel_rfl) (by kernel_rfl) rd24 (by first | rfl | assumption | (simp; done) | omega)) ?_
    first | exact ⟨by rw [Gs.text_in (by omega), ← hn], hF⟩ | exact ⟨by rw [Gs.text_out (by omega)], hF⟩
  · replace own_p := own_p.upd0 U1
    replace h_bp := U1.get0 h_bp
    replace hF := hF.go0 U1
    try simp only [decide_eq_true_eq, decide_eq_false_iff_not] at h1
    refine opv_run (notF) ?_
    refine condt ?_
    first | exact ⟨by rw [Gs.text_in (by omega), ← hn], hF⟩ | exact ⟨by rw [Gs.text_out (by omega)], hF⟩

end Go.Proofs.Ytojcbhkhfcddnaa
