/-
  Contracts of functions of the program, walked over their shallow forms. No condition but the ones that each states.
-/
import Derived.Test.YtjdoakbadehicaaGreatDoorCodeC
import Derived.Test.YtjdoakbadehicaaGreatDoorBldW
import Derived.Test.YtjdoakbadehicaaGreatDoorCodeText
namespace Go.Proofs.YtjdoakbadehicaaGreatDoor
open Go Go.Sh
set_option linter.unusedVariables false
set_option maxRecDepth 100000


/-- greenscreen/code.Text -/
theorem c_code_Text {page : Int} {A : Option Addr} {c : Nat} {bs : List Int} {w : World} (rd1 : Rd w A (vals .u8 bs)) (hbs : Bs bs) (hlen : bs.length ≤ 1099511627776) :
    Calls Tryz.prog 21 #[.int .i64 page, .slice A bs.length c] w fun e w' => e = .returned (.string ⟨(Gs.txt page bs).toArray⟩) ∧ Upd no w w' := by
  refine F21.calls ?_
  unfold F21
  have l_tab := Gs.tabIn_length (Gs.swapL page)
  have lt_rd1 := rd1.lt
  have hF : Upd no w w := Fr.refl _ _ _
  refine alloc_intro (cs := #[.pointer none, .slice none 0 0]) (by kernel_rfl) (fun b1 w1 e1 h_b1 _ U1 => ?_)
  have na_rd1_b1 := rd1.apart e1
  have ge_b1 : w.heap.size ≤ b1 := by have := hF.size; omega
  replace rd1 := rd1.upd0 U1
  replace hF := hF.go0 U1
  clear e1
  refine callF_val (c_code_Table) (fun w2 U2 => ?_)
  replace rd1 := rd1.upd0 U2
  replace h_b1 := U2.get0 h_b1
  replace hF := hF.go0 U2
  refine alloc_intro (cs := (vals .i32 (List.replicate 256 0)).toArray) (by kernel_rfl) (fun b3 w3 e3 h_b3 _ U3 => ?_)
  have na_rd1_b3 := rd1.apart e3
  have ne_b1_b3 : b1 ≠ b3 := by have := lt_get h_b1; omega
  have ge_b3 : w.heap.size ≤ b3 := by have := hF.size; omega
  replace rd1 := rd1.upd0 U3
  replace h_b1 := U3.get0 h_b1
  replace hF := hF.go0 U3
  clear e3
  refine storeAll_intro (n := 256) (by kernel_rfl) (by first | rfl | simp [vals_length, *]) (by first | rfl | simp [vals_length, *]) (by first | exact vals_one | assumption) h_b3 (fun w4 N4 _ U4 => ?_)
  replace rd1 := rd1.upd1 U4 na_rd1_b3
  replace h_b1 := U4.get1 h_b1 ne_b1_b3
  replace h_b3 := N4
  replace hF := hF.go1 U4 ge_b3
  refine join_cut (fun g w' => ∃ (v : Value), (Bld (b3 + 1) w' b1 v (Lib.byteCells (Gs.txt page (bs.take bs.length)))) ∧ (Upd no w w')) (fun J1 hJ1 => ?_) (fun gJ1 wJ1 hI => ?_)
  · refine opv_run (len_sl (by kernel_rfl) _ _ _) ?_
    refine loop_intro (fun g w' => ∃ (k : Nat) (v : Value), (g 13 = .int .i64 (k : Int)) ∧ (k ≤ bs.length) ∧ (Bld (b3 + 1) w' b1 v (Lib.byteCells (Gs.txt page (bs.take k)))) ∧ (w'.heap[b3]? = some (.cells (vals .i32 (Gs.tab page)).toArray 109 (0, 0))) ∧ (Rd w' A (vals .u8 bs)) ∧ (Upd no w w')) (fun g w' => bs.length - (RowKit.intOf (g 13)).toNat) ?_ (fun g2 wl2 hI => ?_)
    · exact ⟨0, _, (by first | exact g13 | rfl), Nat.zero_le _, (Bld.new h_b1 _), h_b3, rd1, hF⟩
    · obtain ⟨k, v, g13, hk, bld, h_b3, rd1, hF⟩ := hI
      try rw [g13]
      refine opv_dec (lss _ _ _ _) (fun h5 => ?_) (fun h5 => ?_)
      · refine condt ?_
        refine join_cut (fun g w' => ∃ (v : Value), (Bld (b3 + 1) w' b1 v (Lib.byteCells (Gs.txt page (bs.take (k + 1))))) ∧ (w'.heap[b3]? = some (.cells (vals .i32 (Gs.tab page)).toArray 109 (0, 0))) ∧ (Rd w' A (vals .u8 bs)) ∧ (Upd no w w')) (fun J3 hJ3 => ?_) (fun gJ3 wJ3 hI => ?_)
        · refine idx_int (by kernel_rfl) (by kernel_rfl) rd1 (by first | rfl | assumption | omega | (simp; done) | (simp [vals_length, *]; done) | (simp [vals_length] at *; omega)) (by omega) (by omega) (fun x6 hx6 => ?_)
          try simp only [Int.toNat_natCast] at hx6
          have q16 := hbs.get hx6
          have hl16 := Gs.txt_length page (bs.take k)
          rw [List.length_take] at hl16
          refine callF_bool (c_code_Graphic) (fun w7 U7 h7 => ?_) (fun w7 U7 h7 => ?_)
          · replace bld := bld.upd0 U7
            replace rd1 := rd1.upd0 U7
            replace h_b3 := U7.get0 h_b3
            replace hF := hF.go0 U7
            try simp only [decide_eq_true_eq, decide_eq_false_iff_not] at h7
            refine condt ?_
            refine idx_arrint (n := 256) (by kernel_rfl) (by kernel_rfl) h_b3 (by first | assumption | (simp [*]; done)) (by omega) (by omega) (fun x8 hx8 => ?_)
            try simp only [Int.toNat_natCast] at hx8
            obtain ⟨q21, rfl⟩ := Gs.tab_get hx8
            rw [Int.toNat_of_nonneg q16.1]
            have r21 := Gs.sign_range (page := page) (b := x6) (by omega) (by omega)
            refine callF_ex (c_WriteRune bld (by rw [Gs.byteCells_len]; omega) (by have := lt_get h_b3; omega) (by omega) (by omega)) (fun v9 w9 D9 => ?_)
            have bld_o := bld
            obtain ⟨v, bld, U9⟩ := D9
            replace rd1 := rd1.updS U9 (lt_rd1.imp_right fun hh k hk h => by have := hh k hk; rcases h with h | h <;> first | omega | (have := Bld.ge bld_o h; omega))
            replace h_b3 := U9.get h_b3 (fun h => by rcases h with h | h <;> first | omega | (have := Bld.ge bld_o h; omega))
            replace hF := hF.go U9 (fun i hi h => by rcases h with h | h <;> first | omega | (have := Bld.ge bld_o h; omega))
            refine hJ3 _ _ ?_
            exact ⟨_, (by first | (rw [Gs.txt_g hx6 (by assumption)]; exact bld) | (rw [Gs.txt_b hx6 (by assumption)]; exact bld)), h_b3, rd1, hF⟩
          · replace bld := bld.upd0 U7
            replace rd1 := rd1.upd0 U7
            replace h_b3 := U7.get0 h_b3
            replace hF := hF.go0 U7
            try simp only [decide_eq_true_eq, decide_eq_false_iff_not] at h7
            refine condf ?_
            refine callF_ex (c_WriteByte bld (by rw [Gs.byteCells_len]; omega) (by have := lt_get h_b3; omega)) (fun v10 w10 D10 => ?_)
            have bld_o := bld
            obtain ⟨v, bld, U10⟩ := D10
            replace rd1 := rd1.updS U10 (lt_rd1.imp_right fun hh k hk h => by have := hh k hk; rcases h with h | h <;> first | omega | (have := Bld.ge bld_o h; omega))
            replace h_b3 := U10.get h_b3 (fun h => by rcases h with h | h <;> first | omega | (have := Bld.ge bld_o h; omega))
            replace hF := hF.go U10 (fun i hi h => by rcases h with h | h <;> first | omega | (have := Bld.ge bld_o h; omega))
            refine hJ3 _ _ ?_
            exact ⟨_, (by first | (rw [Gs.txt_g hx6 (by assumption)]; exact bld) | (rw [Gs.txt_b hx6 (by assumption)]; exact bld)), h_b3, rd1, hF⟩
        · obtain ⟨v, bld, h_b3, rd1, hF⟩ := hI
          first | refine opv_run (add_i64 _ (by omega)) ?_ | refine opv_run (addI _ _ _ _) ?_
          exact ⟨⟨k + 1, v, (by first | exact g13 | rfl), by omega, bld, h_b3, rd1, hF⟩, cnt_lt (by first | rfl | exact g13) rfl (by omega)⟩
      · refine condf ?_
        refine hJ1 _ _ ?_
        exact ⟨v, (by rw [show bs.length = k by omega]; exact bld), hF⟩
  · obtain ⟨v, bld, hF⟩ := hI
    have hbl := bld.lt
    refine callF_val (c_String (B := w.heap.size) ⟨bld.1, bld.2.1.mono (by omega), bld.2.2⟩ ge_b1) (fun w11 U11 => ?_)
    replace hF := hF.trans U11
    exact ⟨by rw [List.take_length], hF⟩

/-- greenscreen/code.backward -/
theorem c_code_backward {page : Int} {w : World} :
    Calls Tryz.prog 42 #[.int .i64 page] w fun e w' => ∃ v, e = .returned v ∧ ∃ b l, v = .map (some b) ∧ MapI w' .i32 b l ∧ (∀ r, mget l r = (Gs.bof page r).map fun b => .int .u8 (b : Nat)) ∧ w.heap.size ≤ b ∧ Upd no w w' := by
  refine F42.calls ?_
  unfold F42
  have l_tab := Gs.tabIn_length (Gs.swapL page)
  have hF : Upd no w w := Fr.refl _ _ _
  refine makeMap_intro (k := .i32) (fun b1 w1 e1 h_b1 _ U1 => ?_)
  have ge_b1 : w.heap.size ≤ b1 := by have := hF.size; omega
  replace hF := hF.go0 U1
  clear e1
  refine join_cut (fun g w' => ∃ (l : List (Int × Value)), (MapI w' .i32 b1 l) ∧ (∀ r, mget l r = (Gs.bof page r).map fun b => .int .u8 (b : Nat)) ∧ (Upd no w w')) (fun J1 hJ1 => ?_) (fun gJ1 wJ1 hI => ?_)
  · refine callF_val (c_code_Table) (fun w2 U2 => ?_)
    replace h_b1 := h_b1.upd0 U2
    replace hF := hF.go0 U2
    refine loop_intro (fun g w' => ∃ (k : Nat) (l : List (Int × Value)), (g 9 = .int .i64 (k : Int)) ∧ (k ≤ 256) ∧ (MapI w' .i32 b1 l) ∧ (∀ r, mget l r = (Gs.bofK page k r).map fun b => .int .u8 (b : Nat)) ∧ (Upd no w w')) (fun g w' => 256 - (RowKit.intOf (g 9)).toNat) ?_ (fun g2 wl2 hI => ?_)
    · exact ⟨0, [], (by first | exact g9 | rfl), Nat.zero_le _, h_b1, (fun r => rfl), hF⟩
    · obtain ⟨k, l, g9, hk, h_b1, hm, hF⟩ := hI
      try rw [g9]
      refine opv_dec (lss _ _ _ _) (fun h3 => ?_) (fun h3 => ?_)
      · refine condt ?_
        refine join_cut (fun g w' => ∃ (l : List (Int × Value)), (MapI w' .i32 b1 l) ∧ (∀ r, mget l r = (Gs.bofK page (k + 1) r).map fun b => .int .u8 (b : Nat)) ∧ (Upd no w w')) (fun J3 hJ3 => ?_) (fun gJ3 wJ3 hI => ?_)
        · refine index_arrI (n := 256) (by kernel_rfl) (by first | assumption | simp [*]) (by omega) (by omega) (fun x4 hx4 => ?_)
          try simp only [Int.toNat_natCast] at hx4
          obtain ⟨q12, rfl⟩ := Gs.tab_get hx4
          first | refine opv_run (conv_u8 (by kernel_rfl) (by kernel_rfl) (by omega)) ?_ | refine opv_run (convII (k := .u8) (by kernel_rfl) (by kernel_rfl)) ?_
          refine callF_bool (c_code_Graphic) (fun w5 U5 h5 => ?_) (fun w5 U5 h5 => ?_)
          · replace h_b1 := h_b1.upd0 U5
            replace hF := hF.go0 U5
            try simp only [decide_eq_true_eq, decide_eq_false_iff_not] at h5
            refine condt ?_
            first | refine opv_run (conv_u8 (by kernel_rfl) (by kernel_rfl) (by omega)) ?_ | refine opv_run (convII (k := .u8) (by kernel_rfl) (by kernel_rfl)) ?_
            refine mapUpdate_int (kt := 21) (e := 5) (by kernel_rfl) h_b1 (fun w6 N6 _ U6 => ?_)
            replace h_b1 := N6
            replace hF := hF.go1 U6 ge_b1
            refine hJ3 _ _ ?_
            exact ⟨_, h_b1, (fun r => by first | exact Gs.mset_bofK hm (by omega) (by assumption) r | exact Gs.skip_bofK hm (by omega) (by assumption) r), hF⟩
          · replace h_b1 := h_b1.upd0 U5
            replace hF := hF.go0 U5
            try simp only [decide_eq_true_eq, decide_eq_false_iff_not] at h5
            refine condf ?_
            refine hJ3 _ _ ?_
            exact ⟨_, h_b1, (fun r => by first | exact Gs.mset_bofK hm (by omega) (by assumption) r | exact Gs.skip_bofK hm (by omega) (by assumption) r), hF⟩
        · obtain ⟨l, h_b1, hm, hF⟩ := hI
          first | refine opv_run (add_i64 _ (by omega)) ?_ | refine opv_run (addI _ _ _ _) ?_
          exact ⟨⟨k + 1, l, (by first | exact g9 | rfl), by omega, h_b1, hm, hF⟩, cnt_lt (by first | rfl | exact g9) rfl (by omega)⟩
      · refine condf ?_
        refine hJ1 _ _ ?_
        exact ⟨l, h_b1, (by rw [show k = 256 by omega] at hm; exact hm), hF⟩
  · obtain ⟨l, h_b1, hm, hF⟩ := hI
    exact ⟨_, rfl, _, _, rfl, h_b1, hm, ge_b1, hF⟩

/-- greenscreen/code.Bytes -/
theorem c_code_Bytes {page : Int} {s : ByteArray} {w : World} (hlen : s.size ≤ 1099511627776) :
    Calls Tryz.prog 11 #[.int .i64 page, .string s] w fun e w' => ∃ x, e = .returned x ∧ ∃ v, x = .tuple #[v, .int .i64 (if (Gs.bytesOf page s).isSome then 0 else 21)] ∧ Own w.heap.size w' 5 1 v (vals .u8 ((Gs.bytesOf page s).getD [])) ∧ Upd no w w' := by
  refine F11.calls ?_
  unfold F11
  have hF : Upd no w w := Fr.refl _ _ _
  refine callF_ex (c_code_backward) (fun v1 w1 D1 => ?_)
  obtain ⟨b13, l13, rfl, h_b13, hm13, gb13, U1⟩ := D1
  replace hF := hF.go0 U1
  refine join_cut (fun g w' => ∃ (v7 : Value), (g 7 = v7) ∧ (Own w.heap.size w' 5 1 v7 (vals .u8 ((Gs.bytesOf page s).getD []))) ∧ ((Gs.bytesOf page s).isSome = true) ∧ (Upd no w w')) (fun J1 hJ1 => ?_) (fun gJ1 wJ1 hI => ?_)
  · refine range_str (by kernel_rfl) (fun b2 w2 e2 h_b2 _ U2 => ?_)
    have na_h_b13_b2 := h_b13.apart e2
    have ge_b2 : w.heap.size ≤ b2 := by have := hF.size; omega
    replace h_b13 := h_b13.upd0 U2
    replace hF := hF.go0 U2
    clear e2
    refine loop_intro (fun g w' => ∃ (pos : Nat) (acc : List Int) (v7 : Value), (g 7 = v7) ∧ (Own w.heap.size w' 5 1 v7 (vals .u8 acc)) ∧ (w'.heap[b2]? = some (.stringIter s pos)) ∧ (MapI w' .i32 b13 l13) ∧ (Gs.bytesOf page s = (Gs.enc page (Gs.runesAt s pos)).map (acc ++ ·)) ∧ (acc.length ≤ pos) ∧ (∀ k, ownS v7 k → k ≠ b2) ∧ (Upd no w w')) (fun g w' => s.size - iterP w' b2) ?_ (fun g2 wl2 hI => ?_)
    · exact ⟨0, [], _, (by first | exact g7 | rfl), (Own.nil _ _ _ _), h_b2, h_b13, (by simp only [List.nil_append]; show Gs.bytesOf page s = (Gs.bytesOf page s).map _; cases Gs.bytesOf page s <;> rfl), (Nat.le_refl _), (fun k hk => by cases hk), hF⟩
    · obtain ⟨pos, acc, v7, g7, own7, h_b2, h_b13, henc, hpos, nb2, hF⟩ := hI
      try rw [g7]
      have it0 := h_b2
      refine next_str h_b2 ?_ ?_
      · intro h3 w3 N3 _ U3
        replace own7 := own7.upd1 U3 nb2
        replace h_b13 := h_b13.upd1 U3 na_h_b13_b2
        replace h_b2 := N3
        replace hF := hF.go1 U3 ge_b2
        refine opv_run (ext_t (by rfl)) ?_
        refine condt ?_
        refine opv_run (ext_t (by rfl)) ?_
        refine opv_run (lookup_int (kt := 21) (e := 5) (z := .int .u8 0) (by kernel_rfl) (by kernel_rfl) (by kernel_rfl) h_b13 rfl) ?_
        rw [hm13]
        rcases hbof : Gs.bof page ((Utf8.decode s pos).1 : Nat) with _ | bb
        · refine opv_run (ext_t (by rfl)) ?_
          refine opv_run (ext_t (by rfl)) ?_
          refine opv_run (notF) ?_
          refine condt ?_
          first | exact ⟨_, rfl, _, by rw [if_pos hs], own7, hF⟩ | (have hn := Gs.enc_none1 (by assumption) henc hbof; exact ⟨_, rfl, _, by rw [if_neg (by rw [hn]; decide)], by rw [hn]; exact Own.nil _ _ _ _, hF⟩)
        · refine opv_run (ext_t (by rfl)) ?_
          refine opv_run (ext_t (by rfl)) ?_
          refine opv_run (notT) ?_
          refine condf ?_
          refine buildSlice_intro (e := 5) (m := 1) (z := #[.int .u8 0]) (by kernel_rfl) (by kernel_rfl) (by rfl) (by decide) (by first | (simp [fillL, splice, repL, Value.cells]; done) | (simp [fillL, splice, repL, Value.cells]; rfl)) (fun b7 w7 e7 h_b7 _ U7 => ?_)
          have na_own7_b7 := own7.apart e7
          have ne_b2_b7 : b2 ≠ b7 := by have := lt_get h_b2; omega
          have na_h_b13_b7 := h_b13.apart e7
          have ge_b7 : w.heap.size ≤ b7 := by have := hF.size; omega
          replace own7 := own7.upd0 U7
          replace h_b13 := h_b13.upd0 U7
          replace h_b2 := U7.get0 h_b2
          replace hF := hF.go0 U7
          clear e7
          refine app_intro (e := 5) (size := 1) (bytes := 1) (by kernel_rfl) own7 (Rd.of_blockL h_b7) rfl (by first | (simp [Value.oneCell']; done) | (intro u hu; simp only [List.mem_singleton] at hu; subst hu; rfl) | (simp; intros; subst_vars; rfl)) (by simp only [vals_length, List.length_take, List.length_cons, List.length_nil, List.length_append, List.length_map, List.length_range]; omega) (by have := hF.size; omega) (fun v8 w8 N8 U8 => ?_)
          have own7_o := own7
          replace own7 := N8
          replace h_b2 := U8.get h_b2 (fun h => nb2 _ h rfl)
          replace h_b13 := h_b13.updS U8 (fun hk => Own.not_mapI own7_o h_b13 _ hk rfl)
          replace h_b7 := U8.get h_b7 (fun h => na_own7_b7 _ h rfl)
          replace hF := hF.go U8 (fun i h hs => by first | exact hs | exact .inl hs | exact .inr hs | (have := (Own.ge own7_o hs).1; omega))
          clear own7_o
          exact ⟨⟨_, _, _, (by first | exact g7 | rfl), (own_snoc own7), h_b2, h_b13, (Gs.enc_step1 (by assumption) henc (by first | exact hbof | exact Gs.bof_of hby (by assumption) | exact Gs.bof_of_not hby (by assumption))), (by have := Gs.width_pos s pos (by assumption); simp only [List.length_append, List.length_cons, List.length_nil]; omega), (Own.not_iter own7 h_b2), hF⟩, meas_iter it0 h_b2 (by have := Gs.width_pos s pos (by assumption); omega) (by assumption)⟩
      · intro h4
        refine opv_run (ext_t (by rfl)) ?_
        refine condf ?_
        refine hJ1 _ _ ?_
        exact ⟨v7, (by first | exact g7 | rfl), (by rw [henc, Gs.runesAt_end (by assumption)]; simpa [Gs.enc] using own7), (by rw [henc, Gs.runesAt_end (by assumption)]; rfl), hF⟩
  · obtain ⟨v7, g7, own7, hs, hF⟩ := hI
    try rw [g7]
    first | exact ⟨_, rfl, _, by rw [if_pos hs], own7, hF⟩ | (have hn := Gs.enc_none1 (by assumption) henc hbof; exact ⟨_, rfl, _, by rw [if_neg (by rw [hn]; decide)], by rw [hn]; exact Own.nil _ _ _ _, hF⟩)

end Go.Proofs.YtjdoakbadehicaaGreatDoor
