/-
  Contracts of functions of the program, walked over their shallow forms. No condition but the ones that each states.
-/
import Derived.Test.YtojcbhkhfcddnaaPb
namespace Go.Proofs.Ytojcbhkhfcddnaa
open Go Go.Sh
set_option linter.unusedVariables false
set_option maxRecDepth 100000


/-- greenscreen/greenscreenref14.Has -/
theorem c_greenscreenref14_Has {r c cur i : Int} {A : Option Addr} {n cp : Nat} {w : World} :
    Calls Try.prog 46 #[.agg #[.int .i64 r, .int .i64 c, .slice A n cp, .int .i64 cur], .int .i64 i] w fun e w' => e = .returned (.bool (decide (0 ≤ i ∧ i < n))) ∧ Upd no w w' := by
  refine F46.calls ?_
  unfold F46
  have hF : Upd no w w := Fr.refl _ _ _
  refine box_intro (by rfl) (fun b1 w1 e1 h_b1 _ U1 => ?_)
  have ge_b1 : w.heap.size ≤ b1 := by have := hF.size; omega
  replace hF := hF.go0 U1
  clear e1
  refine opv_dec (geq _ _ _ _) (fun h2 => ?_) (fun h2 => ?_)
  · refine gdtt ?_
    refine gdtt ?_
    refine opv_run (fieldAt_eq (off := 2) (by kernel_rfl)) ?_
    refine gdtt ?_
    refine opv_run (ldC (by kernel_rfl) h_b1 (by rfl)) ?_
    refine gdtt ?_
    refine opv_run (len_sl (by kernel_rfl) _ _ _) ?_
    refine gdtt ?_
    refine opv_run (lss _ _ _ _) ?_
    refine pickt ?_
    first | exact ⟨retB (by omega), hF⟩ | exact ⟨retT (by omega), hF⟩ | exact ⟨retF (by omega), hF⟩
  · refine gdft ?_
    refine gdft ?_
    refine gdft ?_
    refine gdft ?_
    refine gdft ?_
    refine pickf ?_
    first | exact ⟨retB (by omega), hF⟩ | exact ⟨retT (by omega), hF⟩ | exact ⟨retF (by omega), hF⟩

/-- greenscreen/greenscreenref14.Set -/
theorem c_greenscreenref14_Set {r c cur : Int} {A : Option Addr} {n cp : Nat} {cs : List Gs.Cell} {w : World} (rd1 : Rd w A (rows Gs.cv cs)) (hn : n = cs.length) {i : Int} {x : Gs.Cell} (hb : n ≤ 4096) :
    Calls Try.prog 59 #[.agg #[.int .i64 r, .int .i64 c, .slice A n cp, .int .i64 cur], .int .i64 i, .agg (Gs.cv x).toArray] w fun e w' => ∃ v, e = .returned v ∧ ∃ A' c', v = .agg #[.int .i64 r, .int .i64 c, .slice A' n c', .int .i64 cur] ∧ Rd w' A' (rows Gs.cv (Gs.setC cs i x)) ∧ (∀ k, blkOf A' k → blkOf A k ∨ w.heap.size ≤ k) ∧ Upd no w w' := by
  refine F59.calls ?_
  unfold F59
  subst hn
  have lt_rd1 := Rd.lt rd1
  have hF : Upd no w w := Fr.refl _ _ _
  refine box_intro (by rfl) (fun b1 w1 e1 h_b1 _ U1 => ?_)
  have na_rd1_b1 := rd1.apart e1
  have ge_b1 : w.heap.size ≤ b1 := by have := hF.size; omega
  replace rd1 := rd1.upd0 U1
  replace hF := hF.go0 U1
  clear e1
  refine box_intro (cs := (Gs.cv x).toArray) (by rfl) (fun b2 w2 e2 h_b2 _ U2 => ?_)
  have na_rd1_b2 := rd1.apart e2
  have ne_b1_b2 : b1 ≠ b2 := by have := lt_get h_b1; omega
  have ge_b2 : w.heap.size ≤ b2 := by have := hF.size; omega
  replace rd1 := rd1.upd0 U2
  replace h_b1 := U2.get0 h_b1
  replace hF := hF.go0 U2
  clear e2
  refine alloc_intro (cs := #[.int .i64 0, .int .i64 0, .slice none 0 0, .int .i64 0]) (by kernel_rfl) (fun b3 w3 e3 h_b3 _ U3 => ?_)
  have na_rd1_b3 := rd1.apart e3
  have ne_b1_b3 : b1 ≠ b3 := by have := lt_get h_b1; omega
  have ne_b2_b3 : b2 ≠ b3 := by have := lt_get h_b2; omega
  have ge_b3 : w.heap.size ≤ b3 := by have := hF.size; omega
  replace rd1 := rd1.upd0 U3
  replace h_b1 := U3.get0 h_b1
  replace h_b2 := U3.get0 h_b2
  replace hF := hF.go0 U3
  clear e3
  refine join_cut (fun g w' => ∃ (A1 : Option Addr) (c1 : Nat), (w'.heap[b1]? = some (.cells #[.int .i64 r, .int .i64 c, .slice A1 cs.length c1, .int .i64 cur] 28 (0, 0))) ∧ (w'.heap[b3]? = some (.cells #[.int .i64 0, .int .i64 0, .slice none 0 0, .int .i64 0] 28 (0, 0))) ∧ (Rd w' A1 (rows Gs.cv (Gs.setC cs i x))) ∧ (∀ k, blkOf A1 k → blkOf A k ∨ w.heap.size ≤ k) ∧ (rows Gs.cv (Gs.setC cs i x) = [] ∨ ∀ k, blkOf A1 k → k ≠ b3) ∧ (Upd no w w')) (fun J1 hJ1 => ?_) (fun gJ1 wJ1 hI => ?_)
  · refine opv_run (ldA (n := 4) (by kernel_rfl) h_b1 (by first | exact Nat.le_of_ble_eq_true rfl | (simp; done) | omega) (by rfl)) ?_
    refine callF_bool (c_greenscreenref14_Has) (fun w4 U4 h4 => ?_) (fun w4 U4 h4 => ?_)
    · replace rd1 := rd1.upd0 U4
      replace h_b1 := U4.get0 h_b1
      replace h_b2 := U4.get0 h_b2
      replace h_b3 := U4.get0 h_b3
      replace hF := hF.go0 U4
      try simp only [decide_eq_true_eq, decide_eq_false_iff_not] at h4
      refine condt ?_
      refine buildSlice_intro (e := 45) (m := 5) (z := #[.int .u8 0, .bool false, .bool false, .int .u8 0, .int .u8 0]) (by kernel_rfl) (by kernel_rfl) (by rfl) (by decide) (by first | (simp [fillL, splice, repL, Value.cells]; done) | (simp [fillL, splice, repL, Value.cells]; rfl)) (fun b5 w5 e5 h_b5 _ U5 => ?_)
      have na_rd1_b5 := rd1.apart e5
      have ne_b1_b5 : b1 ≠ b5 := by have := lt_get h_b1; omega
      have ne_b2_b5 : b2 ≠ b5 := by have := lt_get h_b2; omega
      have ne_b3_b5 : b3 ≠ b5 := by have := lt_get h_b3; omega
      have ge_b5 : w.heap.size ≤ b5 := by have := hF.size; omega
      replace rd1 := rd1.upd0 U5
      replace h_b1 := U5.get0 h_b1
      replace h_b2 := U5.get0 h_b2
      replace h_b3 := U5.get0 h_b3
      replace hF := hF.go0 U5
      clear e5
      have own_b5 := Own.of_block (n := 0) (xs := rows Gs.cv []) (size := 5) h_b5 ge_b5 rfl (by decide)
      refine opv_run (fieldAt_eq (off := 2) (by kernel_rfl)) ?_
      refine opv_run (ldC (by kernel_rfl) h_b1 (by rfl)) ?_
      refine app_introA (e := 45) (size := 5) (bytes := 5) (by kernel_rfl) own_b5 rd1 (by first | exact rows_len Gs.encC _ | (rw [rows_len Gs.encC]; omega)) (rows_one Gs.encC _) (by rw [rows_len Gs.encC, rows_len Gs.encC]; simp only [List.length_nil]; omega) (by have := hF.size; omega) (fun v6 w6 N6 hA6 U6 => ?_)
      have own_b5_o := own_b5
      have nb6_rd1 := ap_rd (S' := w5) (na_rd1_b5.imp_right fun h k hk hs => by cases hs; exact h _ hk rfl) rd1 hA6
      have nb6_h_b1 := ap_blk (S' := w5) (fun hs => by cases hs; exact ne_b1_b5 rfl) h_b1 hA6
      have nb6_h_b2 := ap_blk (S' := w5) (fun hs => by cases hs; exact ne_b2_b5 rfl) h_b2 hA6
      have nb6_h_b3 := ap_blk (S' := w5) (fun hs => by cases hs; exact ne_b3_b5 rfl) h_b3 hA6
      replace rd1 := rd1.updS U6 (na_rd1_b5.imp_right fun h k hk hs => by cases hs; exact h _ hk rfl)
      replace h_b1 := U6.get h_b1 (fun hs => by cases hs; exact ne_b1_b5 rfl)
      replace h_b2 := U6.get h_b2 (fun hs => by cases hs; exact ne_b2_b5 rfl)
      replace h_b3 := U6.get h_b3 (fun hs => by cases hs; exact ne_b3_b5 rfl)
      replace own_b5 := N6
      replace hF := hF.go U6 (fun i h hs => by first | exact hs | exact .inl hs | exact .inr hs | (have := (Own.ge own_b5_o hs).1; omega))
      clear own_b5_o
      rw [rows_append] at own_b5
      try simp only [List.nil_append] at own_b5
      obtain ⟨A6, c6, rfl⟩ := Own.open Gs.encC own_b5
      refine opv_run (ldA (n := 5) (cs' := (Gs.cv x).toArray) (by kernel_rfl) h_b2 (by first | exact Nat.le_of_ble_eq_true rfl | (simp; done) | omega) (by rfl)) ?_
      obtain ⟨g7, hg7, _⟩ := own_b5.at (by rw [rows_len Gs.encC]; omega)
      first | subst hg7 | cases hg7
      refine opv_run (index_slice (n := 5) (by kernel_rfl) (by omega) (by omega)) ?_
      refine store_row (i := i) Gs.encC (by kernel_rfl) own_b5 (by omega) (by omega) rfl (fun w8 N8 _ U8 => ?_)
      have own_b5_o := own_b5
      replace rd1 := rd1.updS U8 nb6_rd1
      replace h_b1 := U8.get h_b1 nb6_h_b1
      replace h_b2 := U8.get h_b2 nb6_h_b2
      replace h_b3 := U8.get h_b3 nb6_h_b3
      replace own_b5 := N8
      replace hF := hF.go U8 (fun i h hs => by first | exact hs | exact .inl hs | exact .inr hs | (have := (Own.ge own_b5_o hs).1; omega))
      clear own_b5_o
      refine opv_run (fieldAt_eq (off := 2) (by kernel_rfl)) ?_
      refine store1_intro (by kernel_rfl) rfl rfl h_b1 (by first | (simp; done) | omega | (simp [vals_length, *]; done) | (simp [vals_length, *]; omega)) (by first | (simp [vals_set]; rfl) | rfl) (fun w9 N9 _ U9 => ?_)
      replace rd1 := rd1.upd1 U9 na_rd1_b1
      replace own_b5 := own_b5.upd1 U9 (by first | assumption | exact Own.ne_blk own_b5 (by assumption) (by decide) | exact Own.not_loop own_b5 (by assumption) (by assumption) | exact Own.not_def own_b5 (by assumption))
      replace h_b1 := N9
      replace h_b2 := U9.get1 h_b2 (Ne.symm ne_b1_b2)
      replace h_b3 := U9.get1 h_b3 (Ne.symm ne_b1_b3)
      replace hF := hF.go1 U9 ge_b1
      refine hJ1 _ _ ?_
      first | (rw [← Gs.setC_in (cs := cs) (i := i) x (by omega) (by omega)] at own_b5; exact ⟨_, _, h_b1, h_b3, own_b5.rdS, fun k hk => .inr (own_b5.geb k hk).1, .inr (own_b5.neb h_b3 (by decide)), hF⟩) | exact ⟨_, _, h_b1, h_b3, by rw [Gs.setC_out x (by omega)]; exact rd1, fun k hk => .inl hk, by rw [Gs.setC_out x (by omega)]; exact na_rd1_b3, hF⟩
    · replace rd1 := rd1.upd0 U4
      replace h_b1 := U4.get0 h_b1
      replace h_b2 := U4.get0 h_b2
      replace h_b3 := U4.get0 h_b3
      replace hF := hF.go0 U4
      try simp only [decide_eq_true_eq, decide_eq_false_iff_not] at h4
      refine condf ?_
      refine hJ1 _ _ ?_
      first | (rw [← Gs.setC_in (cs := cs) (i := i) x (by omega) (by omega)] at own_b5; exact ⟨_, _, h_b1, h_b3, own_b5.rdS, fun k hk => .inr (own_b5.geb k hk).1, .inr (own_b5.neb h_b3 (by decide)), hF⟩) | exact ⟨_, _, h_b1, h_b3, by rw [Gs.setC_out x (by omega)]; exact rd1, fun k hk => .inl hk, by rw [Gs.setC_out x (by omega)]; exact na_rd1_b3, hF⟩
  · obtain ⟨A1, c1, h_b1, h_b3, rd1, hA, na_rd1_b3, hF⟩ := hI
    refine opv_run (ldA (n := 4) (by kernel_rfl) h_b1 (by first | exact Nat.le_of_ble_eq_true rfl | (simp; done) | omega) (by rfl)) ?_
    refine store_intro (n := 4) (by kernel_rfl) (by rfl) (by first | rfl | (simp [Value.cells, Value.oneCell', Gs.cv]; done)) h_b3 (by first | exact Nat.le_of_ble_eq_true rfl | (simp; done) | omega) (by first | (simp; rfl) | rfl) (fun w10 N10 _ U10 => ?_)
    replace rd1 := rd1.upd1 U10 na_rd1_b3
    replace h_b1 := U10.get1 h_b1 ne_b1_b3
    replace h_b3 := N10
    replace hF := hF.go1 U10 ge_b3
    refine ldv_run (ldA (n := 4) (by kernel_rfl) h_b3 (by first | exact Nat.le_of_ble_eq_true rfl | simp | omega) (by rfl)) ?_
    exact ⟨_, rfl, _, _, rfl, rd1, hA, hF⟩

end Go.Proofs.Ytojcbhkhfcddnaa
