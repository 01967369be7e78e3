/-
  Contracts of functions of the program, walked over their shallow forms. No condition but the ones that each states.
-/
import Derived.Test.YtojcbhkhfcddnaaDoorPc
namespace Go.Proofs.YtojcbhkhfcddnaaDoor
open Go Go.Sh
set_option linter.unusedVariables false
set_option maxRecDepth 100000


/-- greenscreen/greenscreenref01.Held -/
theorem c_greenscreenref01_Held {n lo hi : Int} {w : World} :
    Calls Tryd.prog 36 #[.int .i64 n, .int .i64 lo, .int .i64 hi] w fun e w' => e = .returned (.int .i64 (if n < lo then lo else if hi < n then hi else n)) ∧ Upd no w w' := by
  refine F36.calls ?_
  unfold F36
  have hF : Upd no w w := Fr.refl _ _ _
  refine opv_dec (lss _ _ _ _) (fun h1 => ?_) (fun h1 => ?_)
  · refine condt ?_
    first | exact ⟨retI (by rw [if_pos (by assumption)]), hF⟩ | exact ⟨retI (by rw [if_neg (by assumption), if_pos (by assumption)]), hF⟩ | exact ⟨retI (by rw [if_neg (by assumption), if_neg (by assumption)]), hF⟩
  · refine condf ?_
    refine opv_dec (gtr _ _ _ _) (fun h3 => ?_) (fun h3 => ?_)
    · refine condt ?_
      first | exact ⟨retI (by rw [if_pos (by assumption)]), hF⟩ | exact ⟨retI (by rw [if_neg (by assumption), if_pos (by assumption)]), hF⟩ | exact ⟨retI (by rw [if_neg (by assumption), if_neg (by assumption)]), hF⟩
    · refine condf ?_
      first | exact ⟨retI (by rw [if_pos (by assumption)]), hF⟩ | exact ⟨retI (by rw [if_neg (by assumption), if_pos (by assumption)]), hF⟩ | exact ⟨retI (by rw [if_neg (by assumption), if_neg (by assumption)]), hF⟩

/-- greenscreen/greenscreenref14.Fill -/
theorem c_greenscreenref14_Fill {r c cur : Int} {A : Option Addr} {n cp : Nat} {cs : List Gs.Cell} {w : World} (rd1 : Rd w A (rows Gs.cv cs)) (hn : n = cs.length) {i j : Int} {x : Gs.Cell} (hb : n ≤ 4096) (hN : Gs.cellsN r c = n) :
    Calls Tryd.prog 16 #[.agg #[.int .i64 r, .int .i64 c, .slice A n cp, .int .i64 cur], .int .i64 i, .int .i64 j, .agg (Gs.cv x).toArray] w fun e w' => ∃ v, e = .returned v ∧ ∃ A' c', v = .tuple #[.agg #[.int .i64 r, .int .i64 c, .slice A' n c', .int .i64 cur], .int .i64 ((Gs.betw (Gs.cellsN r c) i j).length : Nat)] ∧ Rd w' A' (rows Gs.cv (Gs.fillC cs (Gs.betw (Gs.cellsN r c) i j) x)) ∧ (∀ k, blkOf A' k → w.heap.size ≤ k) ∧ Upd no w w' := by
  refine F16.calls ?_
  unfold F16
  subst hn
  have lt_rd1 := Rd.lt rd1
  have hF : Upd no w w := Fr.refl _ _ _
  refine box_intro (by rfl) (fun b1 w1 e1 h_b1 _ U1 => ?_)
  have na_rd1_b1 := rd1.apart e1
  have ge_b1 : w.heap.size ≤ b1 := by have := hF.size; omega
  replace rd1 := rd1.upd0 U1
  replace hF := hF.go0 U1
  clear e1
  refine box_intro (cs := (Gs.cv x).toArray) (by rfl) (fun b2 w2 e2 h_b2 _ U2 => ?_)
  have na_rd1_b2 := rd1.apart e2
  have ne_b1_b2 : b1 ≠ b2 := by have := lt_get h_b1; omega
  have ge_b2 : w.heap.size ≤ b2 := by have := hF.size; omega
  replace rd1 := rd1.upd0 U2
  replace h_b1 := U2.get0 h_b1
  replace hF := hF.go0 U2
  clear e2
  refine alloc_intro (cs := #[.int .i64 0, .int .i64 0, .slice none 0 0, .int .i64 0]) (by kernel_rfl) (fun b3 w3 e3 h_b3 _ U3 => ?_)
  have na_rd1_b3 := rd1.apart e3
  have ne_b1_b3 : b1 ≠ b3 := by have := lt_get h_b1; omega
  have ne_b2_b3 : b2 ≠ b3 := by have := lt_get h_b2; omega
  have ge_b3 : w.heap.size ≤ b3 := by have := hF.size; omega
  replace rd1 := rd1.upd0 U3
  replace h_b1 := U3.get0 h_b1
  replace h_b2 := U3.get0 h_b2
  replace hF := hF.go0 U3
  clear e3
  refine opv_run (fieldAt_eq (off := 0) (by kernel_rfl)) ?_
  refine opv_run (ldA (n := 2) (by kernel_rfl) h_b1 (by first | exact Nat.le_of_ble_eq_true rfl | (simp; done) | omega) (by rfl)) ?_
  refine callF_ex (c_greenscreenref02_Between) (fun v4 w4 D4 => ?_)
  obtain ⟨A17, c17, rfl, rd17, gA17, U4⟩ := D4
  have na_rd17_b1 := gA17.ne (lt_get h_b1)
  have na_rd17_b2 := gA17.ne (lt_get h_b2)
  have na_rd17_b3 := gA17.ne (lt_get h_b3)
  replace rd1 := rd1.upd0 U4
  replace h_b1 := U4.get0 h_b1
  replace h_b2 := U4.get0 h_b2
  replace h_b3 := U4.get0 h_b3
  replace hF := hF.go0 U4
  refine buildSlice_intro (e := 36) (m := 5) (z := #[.int .u8 0, .bool false, .bool false, .int .u8 0, .int .u8 0]) (by kernel_rfl) (by kernel_rfl) (by rfl) (by decide) (by first | (simp [fillL, splice, repL, Value.cells]; done) | (simp [fillL, splice, repL, Value.cells]; rfl)) (fun b5 w5 e5 h_b5 _ U5 => ?_)
  have na_rd1_b5 := rd1.apart e5
  have ne_b1_b5 : b1 ≠ b5 := by have := lt_get h_b1; omega
  have ne_b2_b5 : b2 ≠ b5 := by have := lt_get h_b2; omega
  have ne_b3_b5 : b3 ≠ b5 := by have := lt_get h_b3; omega
  have na_rd17_b5 := rd17.apart e5
  have ge_b5 : w.heap.size ≤ b5 := by have := hF.size; omega
  replace rd1 := rd1.upd0 U5
  replace rd17 := rd17.upd0 U5
  replace h_b1 := U5.get0 h_b1
  replace h_b2 := U5.get0 h_b2
  replace h_b3 := U5.get0 h_b3
  replace hF := hF.go0 U5
  clear e5
  have own_b5 := Own.of_block (n := 0) (xs := rows Gs.cv []) (size := 5) h_b5 ge_b5 rfl (by decide)
  refine opv_run (fieldAt_eq (off := 2) (by kernel_rfl)) ?_
  refine opv_run (ldC (by kernel_rfl) h_b1 (by rfl)) ?_
  refine app_introA (e := 36) (size := 5) (bytes := 5) (by kernel_rfl) own_b5 rd1 (by first | exact rows_len Gs.encC _ | (rw [rows_len Gs.encC]; omega)) (rows_one Gs.encC _) (by rw [rows_len Gs.encC, rows_len Gs.encC]; simp only [List.length_nil]; omega) (by have := hF.size; omega) (fun v6 w6 N6 hA6 U6 => ?_)
  have own_b5_o := own_b5
  have nb6_rd1 := ap_rd (S' := w5) (na_rd1_b5.imp_right fun h k hk hs => by cases hs; exact h _ hk rfl) rd1 hA6
  have nb6_h_b1 := ap_blk (S' := w5) (fun hs => by cases hs; exact ne_b1_b5 rfl) h_b1 hA6
  have nb6_h_b2 := ap_blk (S' := w5) (fun hs => by cases hs; exact ne_b2_b5 rfl) h_b2 hA6
  have nb6_h_b3 := ap_blk (S' := w5) (fun hs => by cases hs; exact ne_b3_b5 rfl) h_b3 hA6
  have nb6_rd17 := ap_rd (S' := w5) (na_rd17_b5.imp_right fun h k hk hs => by cases hs; exact h _ hk rfl) rd17 hA6
  replace rd1 := rd1.updS U6 (na_rd1_b5.imp_right fun h k hk hs => by cases hs; exact h _ hk rfl)
  replace h_b1 := U6.get h_b1 (fun hs => by cases hs; exact ne_b1_b5 rfl)
  replace h_b2 := U6.get h_b2 (fun hs => by cases hs; exact ne_b2_b5 rfl)
  replace h_b3 := U6.get h_b3 (fun hs => by cases hs; exact ne_b3_b5 rfl)
  replace rd17 := rd17.updS U6 (na_rd17_b5.imp_right fun h k hk hs => by cases hs; exact h _ hk rfl)
  replace own_b5 := N6
  replace hF := hF.go U6 (fun i h hs => by first | exact hs | exact .inl hs | exact .inr hs | (have := (Own.ge own_b5_o hs).1; omega))
  clear own_b5_o
  rw [rows_append] at own_b5
  try simp only [List.nil_append] at own_b5
  obtain ⟨A6, c6, rfl⟩ := Own.open Gs.encC own_b5
  refine join_cut (fun g w' => (Own w.heap.size w' 36 5 (.slice A6 cs.length c6) (rows Gs.cv (Gs.fillC cs (Gs.betw (Gs.cellsN r c) i j) x))) ∧ (w'.heap[b1]? = some (.cells #[.int .i64 r, .int .i64 c, .slice A cs.length cp, .int .i64 cur] 32 (0, 0))) ∧ (w'.heap[b3]? = some (.cells #[.int .i64 0, .int .i64 0, .slice none 0 0, .int .i64 0] 32 (0, 0))) ∧ (Upd no w w')) (fun J1 hJ1 => ?_) (fun gJ1 wJ1 hI => ?_)
  · refine loop_intro (fun g w' => ∃ (k : Nat), (g 12 = .int .i64 (k : Int)) ∧ (k ≤ (Gs.betw (Gs.cellsN r c) i j).length) ∧ (Own w.heap.size w' 36 5 (.slice A6 cs.length c6) (rows Gs.cv (Gs.fillC cs ((Gs.betw (Gs.cellsN r c) i j).take k) x))) ∧ (w'.heap[b1]? = some (.cells #[.int .i64 r, .int .i64 c, .slice A cs.length cp, .int .i64 cur] 32 (0, 0))) ∧ (w'.heap[b2]? = some (.cells (Gs.cv x).toArray 36 (0, 0))) ∧ (w'.heap[b3]? = some (.cells #[.int .i64 0, .int .i64 0, .slice none 0 0, .int .i64 0] 32 (0, 0))) ∧ (Rd w' A17 (vals .i64 (Gs.betw (Gs.cellsN r c) i j))) ∧ (Upd no w w')) (fun g w' => (Gs.betw (Gs.cellsN r c) i j).length - (RowKit.intOf (g 12)).toNat) ?_ (fun g2 wl2 hI => ?_)
    · exact ⟨0, (by first | exact g12 | rfl), Nat.zero_le _, (by simpa [Gs.fillC] using own_b5), h_b1, h_b2, h_b3, rd17, hF⟩
    · obtain ⟨k, g12, hk, own_b5, h_b1, h_b2, h_b3, rd17, hF⟩ := hI
      try rw [g12]
      have hle := Gs.betw_le (r := r) (c := c) (i := i) (j := j)
      have hfl := Gs.fill_len cs ((Gs.betw (Gs.cellsN r c) i j).take k) x
      have hbl := Gs.betw_len (Gs.cellsN r c) i j
      refine opv_run (len_sl (by kernel_rfl) _ _ _) ?_
      refine opv_dec (lss _ _ _ _) (fun h7 => ?_) (fun h7 => ?_)
      · refine condt ?_
        refine drawn_S (S := no) (fun w8 U8 => ?_)
        replace own_b5 := own_b5.upd0 U8
        replace rd17 := rd17.upd0 U8
        replace h_b1 := U8.get0 h_b1
        replace h_b2 := U8.get0 h_b2
        replace h_b3 := U8.get0 h_b3
        replace hF := hF.go0 U8
        refine qidx1 (by kernel_rfl) (by kernel_rfl) (fun w' hw' => rd17.upd0 hw') (Fr.refl _ _ _) (by first | rfl | assumption | omega | (simp; done) | (simp [vals_length, *]; done) | (simp [vals_length] at *; omega)) (by omega) (by omega) (fun x9 hx9 => ?_)
        try simp only [Int.toNat_natCast] at hx9
        have bx := Gs.betw_get hx9
        refine qop_run (fun w' hw' => by have h_b2 := hw'.get0 h_b2; exact (ldA (n := 5) (cs' := (Gs.cv x).toArray) (by kernel_rfl) h_b2 (by first | exact Nat.le_of_ble_eq_true rfl | (simp; done) | omega) (by rfl))) ?_
        obtain ⟨g10, rfl, _⟩ := own_b5.at (by rw [rows_len Gs.encC]; omega)
        refine qop_run (fun w' hw' => (index_slice (n := 5) (by kernel_rfl) (by omega) (by omega))) ?_
        refine ext_intro (fun w11 U11 => ?_)
        replace own_b5 := own_b5.upd0 U11
        replace rd17 := rd17.upd0 U11
        replace h_b1 := U11.get0 h_b1
        replace h_b2 := U11.get0 h_b2
        replace h_b3 := U11.get0 h_b3
        replace hF := hF.go0 U11
        refine store_row (i := x9) Gs.encC (by kernel_rfl) own_b5 (by omega) (by omega) rfl (fun w12 N12 _ U12 => ?_)
        have own_b5_o := own_b5
        replace own_b5 := N12
        replace h_b1 := U12.get h_b1 nb6_h_b1
        replace h_b2 := U12.get h_b2 nb6_h_b2
        replace h_b3 := U12.get h_b3 nb6_h_b3
        replace rd17 := rd17.updS U12 nb6_rd17
        replace hF := hF.go U12 (fun i h hs => by first | exact hs | exact .inl hs | exact .inr hs | (have := (Own.ge own_b5_o hs).1; omega))
        clear own_b5_o
        refine ext_intro (fun w13 U13 => ?_)
        replace own_b5 := own_b5.upd0 U13
        replace rd17 := rd17.upd0 U13
        replace h_b1 := U13.get0 h_b1
        replace h_b2 := U13.get0 h_b2
        replace h_b3 := U13.get0 h_b3
        replace hF := hF.go0 U13
        first | refine opv_run (add_i64 _ (by omega)) ?_ | refine opv_run (addI _ _ _ _) ?_
        exact ⟨⟨k + 1, (by first | exact g12 | rfl), by omega, (by rw [← Gs.fill_take hx9]; exact own_b5), h_b1, h_b2, h_b3, rd17, hF⟩, cnt_lt (by first | rfl | exact g12) rfl (by omega)⟩
      · refine condf ?_
        refine hJ1 _ _ ?_
        exact ⟨(by rw [List.take_of_length_le (by omega)] at own_b5; exact own_b5), h_b1, h_b3, hF⟩
  · obtain ⟨own_b5, h_b1, h_b3, hF⟩ := hI
    refine opv_run (fieldAt_eq (off := 2) (by kernel_rfl)) ?_
    refine store1_intro (by kernel_rfl) rfl rfl h_b1 (by first | (simp; done) | omega | (simp [vals_length, *]; done) | (simp [vals_length, *]; omega)) (by first | (simp [vals_set]; rfl) | rfl) (fun w14 N14 _ U14 => ?_)
    replace own_b5 := own_b5.upd1 U14 (by first | assumption | exact Own.ne_blk own_b5 (by assumption) (by decide) | exact Own.not_loop own_b5 (by assumption) (by assumption) | exact Own.not_def own_b5 (by assumption))
    replace h_b1 := N14
    replace h_b3 := U14.get1 h_b3 (Ne.symm ne_b1_b3)
    replace hF := hF.go1 U14 ge_b1
    refine opv_run (ldA (n := 4) (by kernel_rfl) h_b1 (by first | exact Nat.le_of_ble_eq_true rfl | (simp; done) | omega) (by rfl)) ?_
    refine opv_run (len_sl (by kernel_rfl) _ _ _) ?_
    refine store_intro (n := 4) (by kernel_rfl) (by rfl) (by first | rfl | (simp [Value.cells, Value.oneCell', Gs.cv]; done)) h_b3 (by first | exact Nat.le_of_ble_eq_true rfl | (simp; done) | omega) (by first | (simp; rfl) | rfl) (fun w15 N15 _ U15 => ?_)
    replace own_b5 := own_b5.upd1 U15 (by first | assumption | exact Own.ne_blk own_b5 (by assumption) (by decide) | exact Own.not_loop own_b5 (by assumption) (by assumption) | exact Own.not_def own_b5 (by assumption))
    replace h_b1 := U15.get1 h_b1 ne_b1_b3
    replace h_b3 := N15
    replace hF := hF.go1 U15 ge_b3
    refine ldv_run (ldA (n := 4) (by kernel_rfl) h_b3 (by first | exact Nat.le_of_ble_eq_true rfl | simp | omega) (by rfl)) ?_
    exact ⟨_, rfl, _, _, rfl, own_b5.rdS, fun k hk => (own_b5.geb k hk).1, hF⟩

/-- (*greenscreen/plane.Plane).Fill -/
theorem c_Plane_Fill {r c cur : Int} {A : Option Addr} {n cp bp B0 : Nat} {cs : List Gs.Cell} {w : World} (h_bp : w.heap[bp]? = some (.cells #[.int .i64 r, .int .i64 c, .slice A n cp, .int .i64 cur] 66 (0, 0))) (own_p : Own B0 w 36 5 (.slice A n cp) (rows Gs.cv cs)) (hn : n = cs.length) {i j : Int} {x : Gs.Cell} (hN : Gs.cellsN r c = n) :
    Calls Tryd.prog 15 #[.pointer (some ⟨bp, 0, none⟩), .int .i64 i, .int .i64 j, .agg (Gs.cv x).toArray] w fun e w' => ∃ v, e = .returned v ∧ v = .int .i64 ((Gs.betw (Gs.cellsN r c) i j).length : Nat) ∧ Own B0 w' 36 5 (.slice A n cp) (rows Gs.cv (Gs.fillC cs (Gs.betw (Gs.cellsN r c) i j) x)) ∧ Upd (ownS (.slice A n cp)) w w' := by
  refine F15.calls ?_
  unfold F15
  have lt_h_bp := lt_get h_bp
  have lt_own_p := Own.lt own_p
  have hF : Upd (ownS (.slice A n cp)) w w := Fr.refl _ _ _
  refine box_intro (by rfl) (fun b1 w1 e1 h_b1 _ U1 => ?_)
  have ne_bp_b1 : bp ≠ b1 := by have := lt_get h_bp; omega
  have na_own_p_b1 := own_p.apart e1
  have ge_b1 : w.heap.size ≤ b1 := by have := hF.size; omega
  replace own_p := own_p.upd0 U1
  replace h_bp := U1.get0 h_bp
  replace hF := hF.go0 U1
  clear e1
  refine box_intro (cs := (Gs.cv x).toArray) (by rfl) (fun b2 w2 e2 h_b2 _ U2 => ?_)
  have ne_bp_b2 : bp ≠ b2 := by have := lt_get h_bp; omega
  have na_own_p_b2 := own_p.apart e2
  have ne_b1_b2 : b1 ≠ b2 := by have := lt_get h_b1; omega
  have ge_b2 : w.heap.size ≤ b2 := by have := hF.size; omega
  replace own_p := own_p.upd0 U2
  replace h_bp := U2.get0 h_bp
  replace h_b1 := U2.get0 h_b1
  replace hF := hF.go0 U2
  clear e2
  refine alloc_intro (cs := #[.int .i64 0]) (by kernel_rfl) (fun b3 w3 e3 h_b3 _ U3 => ?_)
  have ne_bp_b3 : bp ≠ b3 := by have := lt_get h_bp; omega
  have na_own_p_b3 := own_p.apart e3
  have ne_b1_b3 : b1 ≠ b3 := by have := lt_get h_b1; omega
  have ne_b2_b3 : b2 ≠ b3 := by have := lt_get h_b2; omega
  have ge_b3 : w.heap.size ≤ b3 := by have := hF.size; omega
  replace own_p := own_p.upd0 U3
  replace h_bp := U3.get0 h_bp
  replace h_b1 := U3.get0 h_b1
  replace h_b2 := U3.get0 h_b2
  replace hF := hF.go0 U3
  clear e3
  refine store1_intro (by kernel_rfl) rfl rfl h_b3 (by first | (simp; done) | omega | (simp [vals_length, *]; done) | (simp [vals_length, *]; omega)) (by first | (simp [vals_set]; rfl) | rfl) (fun w4 N4 _ U4 => ?_)
  replace own_p := own_p.upd1 U4 na_own_p_b3
  replace h_bp := U4.get1 h_bp ne_bp_b3
  replace h_b1 := U4.get1 h_b1 ne_b1_b3
  replace h_b2 := U4.get1 h_b2 ne_b2_b3
  replace h_b3 := N4
  replace hF := hF.go1 U4 ge_b3
  refine join_cut (fun g w' => ∃ (D2 : Nat), (g 1000000 = mkV D2 undef) ∧ (w.heap.size ≤ D2) ∧ (w'.heap[D2]? = some (.deferred (some []))) ∧ (Own B0 w' 36 5 (.slice A n cp) (rows Gs.cv (Gs.fillC cs (Gs.betw (Gs.cellsN r c) i j) x))) ∧ (w'.heap[b3]? = some (.cells #[.int .i64 ((Gs.betw (Gs.cellsN r c) i j).length : Nat)] 3 (0, 0))) ∧ (Upd (ownS (.slice A n cp)) w w')) (fun J1 hJ1 => ?_) (fun gJ1 wJ1 hI => ?_)
  · refine opv_run (ldC (by kernel_rfl) h_b1 (by rfl)) ?_
    refine nilckp ?_
    refine opv_run (fieldAt_eq (off := 0) (by kernel_rfl)) ?_
    refine opv_run (ldA (n := 2) (by kernel_rfl) h_bp (by first | exact Nat.le_of_ble_eq_true rfl | (simp; done) | omega) (by rfl)) ?_
    refine callF_ex (c_addr_Between) (fun v5 w5 D5 => ?_)
    obtain ⟨b3_17, b4_17, b5_17, rfl, g3_17, g4_17, g5_17, h_b3_17, h_b4_17, h_b5_17, U5⟩ := D5
    have ne_bp_b3_17 : bp ≠ b3_17 := by have := lt_get h_bp; omega
    have na_own_p_b3_17 : ∀ k, ownS _ k → k ≠ b3_17 := fun k hk => by have := (Own.ge own_p hk).2; omega
    have ne_b1_b3_17 : b1 ≠ b3_17 := by have := lt_get h_b1; omega
    have ne_b2_b3_17 : b2 ≠ b3_17 := by have := lt_get h_b2; omega
    have ne_b3_b3_17 : b3 ≠ b3_17 := by have := lt_get h_b3; omega
    have ge_b3_17 : w.heap.size ≤ b3_17 := by have := hF.size; omega
    have ne_bp_b4_17 : bp ≠ b4_17 := by have := lt_get h_bp; omega
    have na_own_p_b4_17 : ∀ k, ownS _ k → k ≠ b4_17 := fun k hk => by have := (Own.ge own_p hk).2; omega
    have ne_b1_b4_17 : b1 ≠ b4_17 := by have := lt_get h_b1; omega
    have ne_b2_b4_17 : b2 ≠ b4_17 := by have := lt_get h_b2; omega
    have ne_b3_b4_17 : b3 ≠ b4_17 := by have := lt_get h_b3; omega
    have ge_b4_17 : w.heap.size ≤ b4_17 := by have := hF.size; omega
    have ne_bp_b5_17 : bp ≠ b5_17 := by have := lt_get h_bp; omega
    have na_own_p_b5_17 : ∀ k, ownS _ k → k ≠ b5_17 := fun k hk => by have := (Own.ge own_p hk).2; omega
    have ne_b1_b5_17 : b1 ≠ b5_17 := by have := lt_get h_b1; omega
    have ne_b2_b5_17 : b2 ≠ b5_17 := by have := lt_get h_b2; omega
    have ne_b3_b5_17 : b3 ≠ b5_17 := by have := lt_get h_b3; omega
    have ge_b5_17 : w.heap.size ≤ b5_17 := by have := hF.size; omega
    replace own_p := own_p.upd0 U5
    replace h_bp := U5.get0 h_bp
    replace h_b1 := U5.get0 h_b1
    replace h_b2 := U5.get0 h_b2
    replace h_b3 := U5.get0 h_b3
    replace hF := hF.go0 U5
    refine rangeF_i (by kernel_rfl) (fun w6 l2 D2 Rdy2 Bsy2 Dn2 y2 eD el h_D2 h_l2 lp1 lp2 lp3 sz6 U6 hY => ?_)
    have ne_bp_D2 : bp ≠ D2 := by have := lt_get h_bp; omega
    have ne_bp_l2 : bp ≠ l2 := by have := lt_get h_bp; omega
    have na_own_p_D2 : ∀ k, ownS _ k → k ≠ D2 := fun k hk => by have := (Own.ge own_p hk).2; omega
    have na_own_p_l2 : ∀ k, ownS _ k → k ≠ l2 := fun k hk => by have := (Own.ge own_p hk).2; omega
    have ne_b1_D2 : b1 ≠ D2 := by have := lt_get h_b1; omega
    have ne_b1_l2 : b1 ≠ l2 := by have := lt_get h_b1; omega
    have ne_b2_D2 : b2 ≠ D2 := by have := lt_get h_b2; omega
    have ne_b2_l2 : b2 ≠ l2 := by have := lt_get h_b2; omega
    have ne_b3_D2 : b3 ≠ D2 := by have := lt_get h_b3; omega
    have ne_b3_l2 : b3 ≠ l2 := by have := lt_get h_b3; omega
    have ne_b3_17_D2 : b3_17 ≠ D2 := by have := lt_get h_b3_17; omega
    have ne_b3_17_l2 : b3_17 ≠ l2 := by have := lt_get h_b3_17; omega
    have ne_b4_17_D2 : b4_17 ≠ D2 := by have := lt_get h_b4_17; omega
    have ne_b4_17_l2 : b4_17 ≠ l2 := by have := lt_get h_b4_17; omega
    have ne_b5_17_D2 : b5_17 ≠ D2 := by have := lt_get h_b5_17; omega
    have ne_b5_17_l2 : b5_17 ≠ l2 := by have := lt_get h_b5_17; omega
    have ge_D2 : w.heap.size ≤ D2 := by have := hF.size; omega
    have ge_l2 : w.heap.size ≤ l2 := by have := hF.size; omega
    have ne_D2_l2 : D2 ≠ l2 := by omega
    replace own_p := own_p.upd0 U6
    replace h_bp := U6.get0 h_bp
    replace h_b1 := U6.get0 h_b1
    replace h_b2 := U6.get0 h_b2
    replace h_b3 := U6.get0 h_b3
    replace h_b3_17 := U6.get0 h_b3_17
    replace h_b4_17 := U6.get0 h_b4_17
    replace h_b5_17 := U6.get0 h_b5_17
    replace hF := hF.go0 U6
    refine Calls.mono (c_addr_Between_1 (b3 := b3_17) (b4 := b4_17) (b5 := b5_17) (J := (fun (k : Nat) (w' : World) => (w'.heap[bp]? = some (.cells #[.int .i64 r, .int .i64 c, .slice A n cp, .int .i64 cur] 66 (0, 0))) ∧ (Own B0 w' 36 5 (.slice A n cp) (rows Gs.cv (Gs.fillC cs ((Gs.betw (Gs.cellsN r c) i j).take k) x))) ∧ (w'.heap[b1]? = some (.cells #[.pointer (some ⟨bp, 0, none⟩)] 26 (0, 0))) ∧ (w'.heap[b2]? = some (.cells (Gs.cv x).toArray 36 (0, 0))) ∧ (w'.heap[b3]? = some (.cells #[.int .i64 (k : Nat)] 3 (0, 0))) ∧ (w'.heap[b3_17]? = some (.cells #[.int .i64 r, .int .i64 c] 23 (0, 0))) ∧ (w'.heap[b4_17]? = some (.cells #[.int .i64 i] 3 (0, 0))) ∧ (w'.heap[b5_17]? = some (.cells #[.int .i64 j] 3 (0, 0))) ∧ (w'.heap[D2]? = some (.deferred (some []))) ∧ (w'.heap[l2]? = some Rdy2) ∧ (Upd (ownS (.slice A n cp)) w w'))) (X := (fun _ => False)) (fun k w' hJ => by obtain ⟨h_bp, own_p, h_b1, h_b2, h_b3, h_b3_17, h_b4_17, h_b5_17, h_D2, h_l2, hF⟩ := hJ; exact ⟨h_b3_17, h_b4_17, h_b5_17⟩) (fun k w' w'' hJ U' => by obtain ⟨h_bp, own_p, h_b1, h_b2, h_b3, h_b3_17, h_b4_17, h_b5_17, h_D2, h_l2, hF⟩ := hJ; exact ⟨U'.get0 h_bp, own_p.upd0 U', U'.get0 h_b1, U'.get0 h_b2, U'.get0 h_b3, U'.get0 h_b3_17, U'.get0 h_b4_17, U'.get0 h_b5_17, U'.get0 h_D2, U'.get0 h_l2, hF.go0 U'⟩) ?_ ?_) ?_
    · intro k wl2 xk hx hI
      obtain ⟨h_bp, own_p, h_b1, h_b2, h_b3, h_b3_17, h_b4_17, h_b5_17, h_D2, h_l2, hF⟩ := hI
      have bx := Gs.betw_get hx
      have hk := (List.getElem?_eq_some_iff.1 hx).1
      have hle := Gs.betw_le (r := r) (c := c) (i := i) (j := j)
      have hfl := Gs.fill_len cs ((Gs.betw (Gs.cellsN r c) i j).take k) x
      have hbl := Gs.betw_len (Gs.cellsN r c) i j
      refine hY [.int .i64 xk] _ _ rfl h_l2 ?_
      try simp only [List.getD_cons_zero, List.getD_cons_succ]
      refine midR_i h_l2 (fun w7 N7 _ U7 => ?_)
      replace own_p := own_p.upd1 U7 na_own_p_l2
      replace h_bp := U7.get1 h_bp ne_bp_l2
      replace h_b1 := U7.get1 h_b1 ne_b1_l2
      replace h_b2 := U7.get1 h_b2 ne_b2_l2
      replace h_b3 := U7.get1 h_b3 ne_b3_l2
      replace h_b3_17 := U7.get1 h_b3_17 ne_b3_17_l2
      replace h_b4_17 := U7.get1 h_b4_17 ne_b4_17_l2
      replace h_b5_17 := U7.get1 h_b5_17 ne_b5_17_l2
      replace h_D2 := U7.get1 h_D2 ne_D2_l2
      replace h_l2 := N7
      replace hF := hF.go1 U7 ge_l2
      refine drawn_S (S := no) (fun w8 U8 => ?_)
      replace own_p := own_p.upd0 U8
      replace h_bp := U8.get0 h_bp
      replace h_b1 := U8.get0 h_b1
      replace h_b2 := U8.get0 h_b2
      replace h_b3 := U8.get0 h_b3
      replace h_b3_17 := U8.get0 h_b3_17
      replace h_b4_17 := U8.get0 h_b4_17
      replace h_b5_17 := U8.get0 h_b5_17
      replace h_D2 := U8.get0 h_D2
      replace h_l2 := U8.get0 h_l2
      replace hF := hF.go0 U8
      refine qop_run (fun w' hw' => by have h_b1 := hw'.get0 h_b1; exact (ldC (by kernel_rfl) h_b1 (by rfl))) ?_
      refine qnilckp ?_
      refine qop_run (fun w' hw' => (fieldAt_eq (off := 2) (by kernel_rfl))) ?_
      refine qop_run (fun w' hw' => by have h_bp := hw'.get0 h_bp; exact (ldC (by kernel_rfl) h_bp (by rfl))) ?_
      refine qop_run (fun w' hw' => by have h_b2 := hw'.get0 h_b2; exact (ldA (n := 5) (cs' := (Gs.cv x).toArray) (by kernel_rfl) h_b2 (by first | exact Nat.le_of_ble_eq_true rfl | (simp; done) | omega) (by rfl))) ?_
      obtain ⟨g9, rfl, _⟩ := own_p.at (by rw [rows_len Gs.encC]; omega)
      refine qop_run (fun w' hw' => (index_slice (n := 5) (by kernel_rfl) (by omega) (by omega))) ?_
      refine ext_intro (fun w10 U10 => ?_)
      replace own_p := own_p.upd0 U10
      replace h_bp := U10.get0 h_bp
      replace h_b1 := U10.get0 h_b1
      replace h_b2 := U10.get0 h_b2
      replace h_b3 := U10.get0 h_b3
      replace h_b3_17 := U10.get0 h_b3_17
      replace h_b4_17 := U10.get0 h_b4_17
      replace h_b5_17 := U10.get0 h_b5_17
      replace h_D2 := U10.get0 h_D2
      replace h_l2 := U10.get0 h_l2
      replace hF := hF.go0 U10
      refine store_row (i := xk) Gs.encC (by kernel_rfl) own_p (by omega) (by omega) rfl (fun w11 N11 _ U11 => ?_)
      have own_p_o := own_p
      replace h_bp := U11.get h_bp (fun h => by first | (have := Own.ge own_p_o h; omega) | exact Own.ne_blk own_p_o h_bp (by decide) _ h rfl | exact Own.not_loop own_p_o h_bp (by assumption) _ h rfl | exact Own.not_def own_p_o h_bp _ h rfl | simp_all)
      replace own_p := N11
      replace h_b1 := U11.get h_b1 (fun h => na_own_p_b1 _ h rfl)
      replace h_b2 := U11.get h_b2 (fun h => na_own_p_b2 _ h rfl)
      replace h_b3 := U11.get h_b3 (fun h => na_own_p_b3 _ h rfl)
      replace h_b3_17 := U11.get h_b3_17 (fun h => na_own_p_b3_17 _ h rfl)
      replace h_b4_17 := U11.get h_b4_17 (fun h => na_own_p_b4_17 _ h rfl)
      replace h_b5_17 := U11.get h_b5_17 (fun h => na_own_p_b5_17 _ h rfl)
      replace h_D2 := U11.get h_D2 (fun h => na_own_p_D2 _ h rfl)
      replace h_l2 := U11.get h_l2 (fun h => na_own_p_l2 _ h rfl)
      replace hF := hF.go U11 (fun i h hs => by first | exact hs | exact .inl hs | exact .inr hs | (have := (Own.ge own_p_o hs).1; omega))
      clear own_p_o
      refine ext_intro (fun w12 U12 => ?_)
      replace own_p := own_p.upd0 U12
      replace h_bp := U12.get0 h_bp
      replace h_b1 := U12.get0 h_b1
      replace h_b2 := U12.get0 h_b2
      replace h_b3 := U12.get0 h_b3
      replace h_b3_17 := U12.get0 h_b3_17
      replace h_b4_17 := U12.get0 h_b4_17
      replace h_b5_17 := U12.get0 h_b5_17
      replace h_D2 := U12.get0 h_D2
      replace h_l2 := U12.get0 h_l2
      replace hF := hF.go0 U12
      refine opv_run (ldC (by kernel_rfl) h_b3 (by rfl)) ?_
      first | refine opv_run (add_i64 _ (by omega)) ?_ | refine opv_run (addI _ _ _ _) ?_
      refine store1_intro (by kernel_rfl) rfl rfl h_b3 (by first | (simp; done) | omega | (simp [vals_length, *]; done) | (simp [vals_length, *]; omega)) (by first | (simp [vals_set]; rfl) | rfl) (fun w13 N13 _ U13 => ?_)
      replace own_p := own_p.upd1 U13 na_own_p_b3
      replace h_bp := U13.get1 h_bp ne_bp_b3
      replace h_b1 := U13.get1 h_b1 ne_b1_b3
      replace h_b2 := U13.get1 h_b2 ne_b2_b3
      replace h_b3 := N13
      replace h_b3_17 := U13.get1 h_b3_17 (Ne.symm ne_b3_b3_17)
      replace h_b4_17 := U13.get1 h_b4_17 (Ne.symm ne_b3_b4_17)
      replace h_b5_17 := U13.get1 h_b5_17 (Ne.symm ne_b3_b5_17)
      replace h_D2 := U13.get1 h_D2 (Ne.symm ne_b3_D2)
      replace h_l2 := U13.get1 h_l2 (Ne.symm ne_b3_l2)
      replace hF := hF.go1 U13 ge_b3
      refine finN h_l2 (fun w14 N14 _ U14 => ?_)
      replace own_p := own_p.upd1 U14 na_own_p_l2
      replace h_bp := U14.get1 h_bp ne_bp_l2
      replace h_b1 := U14.get1 h_b1 ne_b1_l2
      replace h_b2 := U14.get1 h_b2 ne_b2_l2
      replace h_b3 := U14.get1 h_b3 ne_b3_l2
      replace h_b3_17 := U14.get1 h_b3_17 ne_b3_17_l2
      replace h_b4_17 := U14.get1 h_b4_17 ne_b4_17_l2
      replace h_b5_17 := U14.get1 h_b5_17 ne_b5_17_l2
      replace h_D2 := U14.get1 h_D2 ne_D2_l2
      replace h_l2 := N14
      replace hF := hF.go1 U14 ge_l2
      exact ⟨h_bp, (by rw [← Gs.fill_take hx]; exact own_p), h_b1, h_b2, (by simpa using h_b3), h_b3_17, h_b4_17, h_b5_17, h_D2, h_l2, hF⟩
    · exact ⟨h_bp, (by simpa [Gs.fillC] using own_p), h_b1, h_b2, h_b3, h_b3_17, h_b4_17, h_b5_17, h_D2, h_l2, hF⟩
    rintro e wE2 ⟨hv, hI | hI⟩
    · obtain ⟨h_bp, own_p, h_b1, h_b2, h_b3, h_b3_17, h_b4_17, h_b5_17, h_D2, h_l2, hF⟩ := hI
      refine ⟨hv, .inl ⟨h_l2, fun w15 _ U15 => ?_⟩⟩
      replace own_p := own_p.upd1 U15 na_own_p_l2
      replace h_bp := U15.get1 h_bp ne_bp_l2
      replace h_b1 := U15.get1 h_b1 ne_b1_l2
      replace h_b2 := U15.get1 h_b2 ne_b2_l2
      replace h_b3 := U15.get1 h_b3 ne_b3_l2
      replace h_b3_17 := U15.get1 h_b3_17 ne_b3_17_l2
      replace h_b4_17 := U15.get1 h_b4_17 ne_b4_17_l2
      replace h_b5_17 := U15.get1 h_b5_17 ne_b5_17_l2
      replace h_D2 := U15.get1 h_D2 ne_D2_l2
      replace hF := hF.go1 U15 ge_l2
      refine hJ1 _ _ ?_
      exact ⟨_, (by first | exact g1000000 | rfl), ge_D2, h_D2, (by rw [List.take_of_length_le (Nat.le_refl _)] at own_p; exact own_p), h_b3, hF⟩
    · exact hI.elim
  · obtain ⟨D2, g1000000, ge_D2, h_D2, own_p, h_b3, hF⟩ := hI
    try rw [g1000000]
    refine opv_run (ldC (by kernel_rfl) h_b3 (by rfl)) ?_
    refine leave1 h_D2 (fun w17 _ U17 => ?_)
    replace own_p := own_p.upd1 U17 (by first | assumption | exact Own.ne_blk own_p (by assumption) (by decide) | exact Own.not_loop own_p (by assumption) (by assumption) | exact Own.not_def own_p (by assumption))
    replace h_b3 := U17.get1 h_b3 (by first | omega | exact blk_ne (by assumption) (by assumption) (by decide) | exact blk_not_loop (by assumption) (by assumption) (by assumption) | exact Ne.symm (blk_not_loop (by assumption) (by assumption) (by assumption)) | exact blk_not_def (by assumption) (by assumption) | exact Ne.symm (blk_not_def (by assumption) (by assumption)))
    replace hF := hF.go1 U17 ge_D2
    exact ⟨_, rfl, rfl, own_p, hF⟩

end Go.Proofs.YtojcbhkhfcddnaaDoor
