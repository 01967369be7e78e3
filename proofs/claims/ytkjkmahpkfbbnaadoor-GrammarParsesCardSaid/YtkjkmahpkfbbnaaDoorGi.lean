/-
  Contracts of functions of the program, walked over their shallow forms. No condition but the ones that each states.
-/
import Derived.Test.YtkjkmahpkfbbnaaDoorGf
import Derived.Test.YtkjkmahpkfbbnaaDoorGramSl
import Derived.Test.YtkjkmahpkfbbnaaDoorFL
namespace Go.Proofs.YtkjkmahpkfbbnaaDoor
open Go Go.Sh
set_option linter.unusedVariables false
set_option maxRecDepth 100000


/-- greenscreen/greenscreenref14.Same -/
theorem c_ref14_Same {A B : Option Addr} {n1 n2 c1 c2 : Nat} {xs ys : List Gs.Cell} {w : World} (rd1 : Rd w A (rows Gs.cv xs)) (hn1 : n1 = xs.length) (rd2 : Rd w B (rows Gs.cv ys)) (hn2 : n2 = ys.length) (hbd : n1 ≤ 100000) :
    Calls Tryd.prog 16 #[.slice A n1 c1, .slice B n2 c2] w fun e w' => e = .returned (.bool (decide (xs = ys))) ∧ Upd no w w' := by
  refine F16.calls ?_
  unfold F16
  have lt_rd1 := rd1.lt
  have lt_rd2 := rd2.lt
  have hF : Upd no w w := Fr.refl _ _ _
  refine opv_run (len_sl (by kernel_rfl) _ _ _) ?_
  refine opv_run (len_sl (by kernel_rfl) _ _ _) ?_
  refine opv_dec (neI _ _ _ _ _) (fun h1 => ?_) (fun h1 => ?_)
  · refine condt ?_
    first | exact ⟨retT (by assumption), hF⟩ | exact ⟨retF (fun he => by subst he; omega), hF⟩ | exact ⟨retF (fun he => by subst he; have := Option.some.inj (hx?.symm.trans hx?); exact absurd this (by assumption)), hF⟩
  · refine condf ?_
    refine join_cut (fun g w' => (xs = ys) ∧ (Upd no w w')) (fun J1 hJ1 => ?_) (fun gJ1 wJ1 hI => ?_)
    · refine loop_intro (fun g w' => ∃ (k : Nat), (g 5 = .int .i64 (k : Int)) ∧ (k ≤ xs.length) ∧ (xs.take k = ys.take k) ∧ (Rd w' A (rows Gs.cv xs)) ∧ (Rd w' B (rows Gs.cv ys)) ∧ (Upd no w w')) (fun g w' => xs.length - (RowKit.intOf (g 5)).toNat) ?_ (fun g2 wl2 hI => ?_)
      · exact ⟨0, (by first | exact g5 | rfl), Nat.zero_le _, rfl, rd1, rd2, hF⟩
      · obtain ⟨k, g5, hk, hall, rd1, rd2, hF⟩ := hI
        try rw [g5]
        refine opv_run (len_sl (by kernel_rfl) _ _ _) ?_
        refine opv_dec (lss _ _ _ _) (fun h3 => ?_) (fun h3 => ?_)
        · refine condt ?_
          refine drawn_S (S := no) (fun w4 U4 => ?_)
          replace rd1 := rd1.upd0 U4
          replace rd2 := rd2.upd0 U4
          replace hF := hF.go0 U4
          refine qidx Gs.encC (by kernel_rfl) (by kernel_rfl) (fun w' hw' => rd1.upd0 hw') (Fr.refl _ _ _) (by first | rfl | assumption | omega) (by omega) (by omega) (fun x5 hx5 => ?_)
          try simp only [Int.toNat_natCast] at hx5
          refine qidx Gs.encC (by kernel_rfl) (by kernel_rfl) (fun w' hw' => rd2.upd0 hw') (Fr.refl _ _ _) (by first | rfl | assumption | omega) (by omega) (by omega) (fun x6 hx6 => ?_)
          try simp only [Int.toNat_natCast] at hx6
          refine qop_dec (fun w' hw' => (ne_Cell _)) (fun h7 => ?_) (fun h7 => ?_)
          · refine ext_intro (fun w8 U8 => ?_)
            replace rd1 := rd1.upd0 U8
            replace rd2 := rd2.upd0 U8
            replace hF := hF.go0 U8
            refine condt ?_
            first | exact ⟨retT (by assumption), hF⟩ | exact ⟨retF (fun he => by subst he; omega), hF⟩ | exact ⟨retF (fun he => by subst he; have := Option.some.inj (hx5.symm.trans hx6); exact absurd this (by assumption)), hF⟩
          · refine ext_intro (fun w10 U10 => ?_)
            replace rd1 := rd1.upd0 U10
            replace rd2 := rd2.upd0 U10
            replace hF := hF.go0 U10
            refine condf ?_
            first | refine opv_run (add_i64 _ (by omega)) ?_ | refine opv_run (addI _ _ _ _) ?_
            exact ⟨⟨k + 1, (by first | exact g5 | rfl), by omega, (Gs.cs_same hall hx5 hx6 (by by_cases hq : x5 = x6; exact hq; contradiction)), rd1, rd2, hF⟩, cnt_lt (by first | rfl | exact g5) rfl (by omega)⟩
        · refine condf ?_
          refine hJ1 _ _ ?_
          exact ⟨(take_all hall (by omega) (by omega)), hF⟩
    · obtain ⟨hall, hF⟩ := hI
      first | exact ⟨retT (by assumption), hF⟩ | exact ⟨retF (fun he => by subst he; omega), hF⟩ | exact ⟨retF (fun he => by subst he; have := Option.some.inj (hx5.symm.trans hx6); exact absurd this (by assumption)), hF⟩

/-- greenscreen/greenscreenref01.Same -/
theorem c_ref01_Same {cs ds : List Int} {A B : Option Addr} {n1 n2 c1 c2 : Nat} {w : World} (rd1 : Rd w A (vals .u8 cs)) (hn1 : n1 = cs.length) (rd2 : Rd w B (vals .u8 ds)) (hn2 : n2 = ds.length) (hb : n1 ≤ 10000000) :
    Calls Tryd.prog 20 #[.slice A n1 c1, .slice B n2 c2] w fun e w' => e = .returned (.bool (decide (cs = ds))) ∧ Upd no w w' := by
  refine F20.calls ?_
  unfold F20
  have lt_rd1 := rd1.lt
  have lt_rd2 := rd2.lt
  have hF : Upd no w w := Fr.refl _ _ _
  refine opv_run (len_sl (by kernel_rfl) _ _ _) ?_
  refine opv_run (len_sl (by kernel_rfl) _ _ _) ?_
  refine opv_dec (neI _ _ _ _ _) (fun h1 => ?_) (fun h1 => ?_)
  · refine condt ?_
    first | exact ⟨retT (by assumption), hF⟩ | exact ⟨retF (fun he => by subst he; omega), hF⟩ | exact ⟨retF (fun he => by subst he; have := Option.some.inj (hx?.symm.trans hx?); exact absurd this (by assumption)), hF⟩
  · refine condf ?_
    refine join_cut (fun g w' => (cs = ds) ∧ (Upd no w w')) (fun J1 hJ1 => ?_) (fun gJ1 wJ1 hI => ?_)
    · refine loop_intro (fun g w' => ∃ (k : Nat), (g 5 = .int .i64 (k : Int)) ∧ (k ≤ cs.length) ∧ (cs.take k = ds.take k) ∧ (Rd w' A (vals .u8 cs)) ∧ (Rd w' B (vals .u8 ds)) ∧ (Upd no w w')) (fun g w' => cs.length - (RowKit.intOf (g 5)).toNat) ?_ (fun g2 wl2 hI => ?_)
      · exact ⟨0, (by first | exact g5 | rfl), Nat.zero_le _, rfl, rd1, rd2, hF⟩
      · obtain ⟨k, g5, hk, hall, rd1, rd2, hF⟩ := hI
        try rw [g5]
        refine opv_run (len_sl (by kernel_rfl) _ _ _) ?_
        refine opv_dec (lss _ _ _ _) (fun h3 => ?_) (fun h3 => ?_)
        · refine condt ?_
          refine drawn_S (S := no) (fun w4 U4 => ?_)
          replace rd1 := rd1.upd0 U4
          replace rd2 := rd2.upd0 U4
          replace hF := hF.go0 U4
          refine qidx1 (by kernel_rfl) (by kernel_rfl) (fun w' hw' => rd1.upd0 hw') (Fr.refl _ _ _) (by first | rfl | assumption | omega | (simp; done) | (simp [vals_length, *]; done) | (simp [vals_length] at *; omega)) (by omega) (by omega) (fun x5 hx5 => ?_)
          try simp only [Int.toNat_natCast] at hx5
          refine qidx1 (by kernel_rfl) (by kernel_rfl) (fun w' hw' => rd2.upd0 hw') (Fr.refl _ _ _) (by first | rfl | assumption | omega | (simp; done) | (simp [vals_length, *]; done) | (simp [vals_length] at *; omega)) (by omega) (by omega) (fun x6 hx6 => ?_)
          try simp only [Int.toNat_natCast] at hx6
          refine qop_dec (fun w' hw' => (neI _ _ _ _ _)) (fun h7 => ?_) (fun h7 => ?_)
          · refine ext_intro (fun w8 U8 => ?_)
            replace rd1 := rd1.upd0 U8
            replace rd2 := rd2.upd0 U8
            replace hF := hF.go0 U8
            refine condt ?_
            first | exact ⟨retT (by assumption), hF⟩ | exact ⟨retF (fun he => by subst he; omega), hF⟩ | exact ⟨retF (fun he => by subst he; have := Option.some.inj (hx5.symm.trans hx6); exact absurd this (by assumption)), hF⟩
          · refine ext_intro (fun w10 U10 => ?_)
            replace rd1 := rd1.upd0 U10
            replace rd2 := rd2.upd0 U10
            replace hF := hF.go0 U10
            refine condf ?_
            first | refine opv_run (add_i64 _ (by omega)) ?_ | refine opv_run (addI _ _ _ _) ?_
            exact ⟨⟨k + 1, (by first | exact g5 | rfl), by omega, (take_same hall hx5 hx6 (by by_cases hq : x5 = x6; exact hq; contradiction)), rd1, rd2, hF⟩, cnt_lt (by first | rfl | exact g5) rfl (by omega)⟩
        · refine condf ?_
          refine hJ1 _ _ ?_
          exact ⟨(take_all hall (by omega) (by omega)), hF⟩
    · obtain ⟨hall, hF⟩ := hI
      first | exact ⟨retT (by assumption), hF⟩ | exact ⟨retF (fun he => by subst he; omega), hF⟩ | exact ⟨retF (fun he => by subst he; have := Option.some.inj (hx5.symm.trans hx6); exact absurd this (by assumption)), hF⟩

/-- greenscreen/greenscreenlaw25.as -/
theorem c_law_as {aid cur : Int} {al : Bool} {A : Option Addr} {n cp : Nat} {l : List Gs.It} {w : World} (rd : Rd w A (rows Gs.ie l)) (hn : n = l.length) (rdc : Gs.Cl w l) (hbd : n ≤ 100000) :
    Calls Tryd.prog 13 #[.agg #[.int .u8 aid, .bool al, .int .i64 cur, .slice A n cp]] w fun e w' => ∃ v, e = .returned v ∧ ∃ (A' : Option Addr) (c' : Nat), v = .agg #[.int .u8 aid, .bool al, .int .i64 cur, .slice A' l.length c'] ∧ Rd w' A' (rows Gs.ie l) ∧ GeA A' (rows Gs.ie l) w.heap.size ∧ Upd no w w' := by
  refine F13.calls ?_
  unfold F13
  have lt_rd := rd.lt
  have lt_rdc := rdc.lt
  have hF : Upd no w w := Fr.refl _ _ _
  refine box_intro (cs := #[.int .u8 aid, .bool al, .int .i64 cur, .slice A n cp]) (by rfl) (fun b1 w1 e1 h_b1 _ U1 => ?_)
  have na_rd_b1 := rd.apart e1
  have na_rdc_b1 := rdc.apart e1
  have ge_b1 : w.heap.size ≤ b1 := by have := hF.size; omega
  replace rd := rd.upd0 U1
  replace rdc := rdc.upd0 U1
  replace hF := hF.go0 U1
  clear e1
  refine alloc_intro (cs := #[.int .u8 0, .bool false, .int .i64 0, .slice none 0 0]) (by kernel_rfl) (fun b2 w2 e2 h_b2 _ U2 => ?_)
  have na_rd_b2 := rd.apart e2
  have na_rdc_b2 := rdc.apart e2
  have ne_b1_b2 : b1 ≠ b2 := by have := lt_get h_b1; omega
  have ge_b2 : w.heap.size ≤ b2 := by have := hF.size; omega
  replace rd := rd.upd0 U2
  replace rdc := rdc.upd0 U2
  replace h_b1 := U2.get0 h_b1
  replace hF := hF.go0 U2
  clear e2
  refine opv_run (fieldAt_eq (off := 0) (by kernel_rfl)) ?_
  refine opv_run (ldC (by kernel_rfl) h_b1 (by rfl)) ?_
  refine opv_run (fieldAt_eq (off := 1) (by kernel_rfl)) ?_
  refine opv_run (ldC (by kernel_rfl) h_b1 (by rfl)) ?_
  refine opv_run (fieldAt_eq (off := 2) (by kernel_rfl)) ?_
  refine opv_run (ldC (by kernel_rfl) h_b1 (by rfl)) ?_
  refine opv_run (build_eq (l := [(0, 1), (1, 1), (2, 1), (3, 1)]) (z := #[.int .u8 0, .bool false, .int .i64 0, .slice none 0 0]) (cs := [.int .u8 aid, .bool al, .int .i64 cur, .slice none 0 0]) (by kernel_rfl) (by rfl)) ?_
  refine alloc_intro (cs := #[.int .u8 0, .bool false, .int .i64 0, .slice none 0 0]) (by kernel_rfl) (fun b4 w4 e4 h_b4 _ U4 => ?_)
  have na_rd_b4 := rd.apart e4
  have na_rdc_b4 := rdc.apart e4
  have ne_b1_b4 : b1 ≠ b4 := by have := lt_get h_b1; omega
  have ne_b2_b4 : b2 ≠ b4 := by have := lt_get h_b2; omega
  have ge_b4 : w.heap.size ≤ b4 := by have := hF.size; omega
  replace rd := rd.upd0 U4
  replace rdc := rdc.upd0 U4
  replace h_b1 := U4.get0 h_b1
  replace h_b2 := U4.get0 h_b2
  replace hF := hF.go0 U4
  clear e4
  refine store_intro (n := 4) (cs' := #[.int .u8 aid, .bool al, .int .i64 cur, .slice none 0 0]) (by kernel_rfl) (by rfl) (by first | rfl | (simp [Value.cells, Value.oneCell', Gs.cv, Gs.ie]; done)) h_b4 (by first | exact Nat.le_of_ble_eq_true rfl | (simp; done) | omega) (by rfl) (fun w5 N5 _ U5 => ?_)
  replace rd := rd.upd1 U5 na_rd_b4
  replace rdc := rdc.upd1 U5 na_rdc_b4
  replace h_b1 := U5.get1 h_b1 ne_b1_b4
  replace h_b2 := U5.get1 h_b2 ne_b2_b4
  replace h_b4 := N5
  replace hF := hF.go1 U5 ge_b4
  refine join_cut (fun g w' => ∃ (A3 : Option Addr) (c3 : Nat), (w'.heap[b2]? = some (.cells #[.int .u8 0, .bool false, .int .i64 0, .slice none 0 0] 32 (0, 0))) ∧ (w'.heap[b4]? = some (.cells #[.int .u8 aid, .bool al, .int .i64 cur, .slice A3 l.length c3] 32 (0, 0))) ∧ (Own w.heap.size w' 65 2 (.slice A3 l.length c3) (rows Gs.ie (l))) ∧ (Gs.Cl w' l) ∧ (Upd no w w')) (fun J1 hJ1 => ?_) (fun gJ1 wJ1 hI => ?_)
  · refine opv_run (fieldAt_eq (off := 3) (by kernel_rfl)) ?_
    refine opv_run (ldC (by kernel_rfl) h_b1 (by rfl)) ?_
    refine opv_run (len_sl (by kernel_rfl) _ _ _) ?_
    refine loop_intro (fun g w' => ∃ (k : Nat) (A3 : Option Addr) (c3 : Nat), (g 16 = .int .i64 (k : Int)) ∧ (k ≤ l.length) ∧ (w'.heap[b1]? = some (.cells #[.int .u8 aid, .bool al, .int .i64 cur, .slice A n cp] 26 (0, 0))) ∧ (w'.heap[b2]? = some (.cells #[.int .u8 0, .bool false, .int .i64 0, .slice none 0 0] 32 (0, 0))) ∧ (w'.heap[b4]? = some (.cells #[.int .u8 aid, .bool al, .int .i64 cur, .slice A3 k c3] 32 (0, 0))) ∧ (Own w.heap.size w' 65 2 (.slice A3 k c3) (rows Gs.ie (l.take k))) ∧ (Rd w' A (rows Gs.ie l)) ∧ (Gs.Cl w' l) ∧ (Upd no w w')) (fun g w' => l.length - (RowKit.intOf (g 16)).toNat) ?_ (fun g2 wl2 hI => ?_)
    · exact ⟨0, _, _, (by first | exact g16 | rfl), Nat.zero_le _, h_b1, h_b2, h_b4, (Own.nil _ _ _ _), rd, rdc, hF⟩
    · obtain ⟨k, A3, c3, g16, hk, h_b1, h_b2, h_b4, own3, rd, rdc, hF⟩ := hI
      try rw [g16]
      refine opv_dec (lss _ _ _ _) (fun h6 => ?_) (fun h6 => ?_)
      · refine condt ?_
        refine idx_rows Gs.encIt (by kernel_rfl) (by kernel_rfl) rd (by first | rfl | assumption | omega) (by omega) (by omega) (fun x7 hx7 => ?_)
        try simp only [Int.toNat_natCast] at hx7
        refine alloc_intro (cs := #[.int .i64 0, .slice none 0 0]) (by kernel_rfl) (fun b8 w8 e8 h_b8 _ U8 => ?_)
        have ne_b1_b8 : b1 ≠ b8 := by have := lt_get h_b1; omega
        have ne_b2_b8 : b2 ≠ b8 := by have := lt_get h_b2; omega
        have ne_b4_b8 : b4 ≠ b8 := by have := lt_get h_b4; omega
        have na_own3_b8 := own3.apart e8
        have na_rd_b8 := rd.apart e8
        have na_rdc_b8 := rdc.apart e8
        have ge_b8 : w.heap.size ≤ b8 := by have := hF.size; omega
        replace own3 := own3.upd0 U8
        replace rd := rd.upd0 U8
        replace rdc := rdc.upd0 U8
        replace h_b1 := U8.get0 h_b1
        replace h_b2 := U8.get0 h_b2
        replace h_b4 := U8.get0 h_b4
        replace hF := hF.go0 U8
        clear e8
        refine store_intro (n := 2) (cs' := (Gs.ie x7).toArray) (by kernel_rfl) (by rfl) (by first | rfl | (simp [Value.cells, Value.oneCell', Gs.cv, Gs.ie]; done)) h_b8 (by first | exact Nat.le_of_ble_eq_true rfl | (simp; done) | omega) (by rfl) (fun w9 N9 _ U9 => ?_)
        replace own3 := own3.upd1 U9 na_own3_b8
        replace rd := rd.upd1 U9 na_rd_b8
        replace rdc := rdc.upd1 U9 na_rdc_b8
        replace h_b1 := U9.get1 h_b1 ne_b1_b8
        replace h_b2 := U9.get1 h_b2 ne_b2_b8
        replace h_b4 := U9.get1 h_b4 ne_b4_b8
        replace h_b8 := N9
        replace hF := hF.go1 U9 ge_b8
        refine opv_run (fieldAt_eq (off := 3) (by kernel_rfl)) ?_
        refine opv_run (ldC (by kernel_rfl) h_b4 (by rfl)) ?_
        refine opv_run (fieldAt_eq (off := 0) (by kernel_rfl)) ?_
        refine opv_run (ldC (by kernel_rfl) h_b8 (by rfl)) ?_
        refine opv_run (fieldAt_eq (off := 1) (by kernel_rfl)) ?_
        refine opv_run (ldC (by kernel_rfl) h_b8 (by rfl)) ?_
        refine opv_run (build_eq (l := [(0, 1), (1, 1)]) (z := #[.int .i64 0, .slice none 0 0]) (cs := Gs.ie x7) (by kernel_rfl) (by rfl)) ?_
        refine buildSlice_intro (e := 65) (m := 2) (z := #[.int .i64 0, .slice none 0 0]) (by kernel_rfl) (by kernel_rfl) (by rfl) (by decide) (by first | (simp [fillL, splice, repL, Value.cells, Gs.cv, Gs.ie]; done) | (simp [fillL, splice, repL, Value.cells, Gs.cv, Gs.ie]; rfl)) (fun b11 w11 e11 h_b11 _ U11 => ?_)
        have ne_b1_b11 : b1 ≠ b11 := by have := lt_get h_b1; omega
        have ne_b2_b11 : b2 ≠ b11 := by have := lt_get h_b2; omega
        have ne_b4_b11 : b4 ≠ b11 := by have := lt_get h_b4; omega
        have na_own3_b11 := own3.apart e11
        have na_rd_b11 := rd.apart e11
        have na_rdc_b11 := rdc.apart e11
        have ne_b8_b11 : b8 ≠ b11 := by have := lt_get h_b8; omega
        have ge_b11 : w.heap.size ≤ b11 := by have := hF.size; omega
        replace own3 := own3.upd0 U11
        replace rd := rd.upd0 U11
        replace rdc := rdc.upd0 U11
        replace h_b1 := U11.get0 h_b1
        replace h_b2 := U11.get0 h_b2
        replace h_b4 := U11.get0 h_b4
        replace h_b8 := U11.get0 h_b8
        replace hF := hF.go0 U11
        clear e11
        refine app_introA (e := 65) (size := 2) (bytes := 32) (by kernel_rfl) own3 (show Rd _ (some ⟨b11, 0, none⟩) (rows Gs.ie [x7]) from Rd.of_blockL h_b11) (by first | exact rows_len Gs.encIt _ | (rw [rows_len Gs.encIt]; omega)) (rows_one Gs.encIt _) (by rw [rows_len Gs.encIt, rows_len Gs.encIt]; try simp only [List.length_nil, List.length_cons, List.length_take, List.length_append]; omega) (by have := hF.size; omega) (fun v12 w12 N12 hA12 U12 => ?_)
        have own3_o := own3
        replace h_b1 := U12.get h_b1 (fun h => by first | (have := Own.ge own3_o h; omega) | exact Own.ne_blk own3_o h_b1 (by decide) _ h rfl | exact Own.not_loop own3_o h_b1 (by assumption) _ h rfl | exact Own.not_def own3_o h_b1 _ h rfl | simp_all)
        replace h_b2 := U12.get h_b2 (fun h => by first | (have := Own.ge own3_o h; omega) | exact Own.ne_blk own3_o h_b2 (by decide) _ h rfl | exact Own.not_loop own3_o h_b2 (by assumption) _ h rfl | exact Own.not_def own3_o h_b2 _ h rfl | simp_all)
        replace h_b4 := U12.get h_b4 (fun h => by first | (have := Own.ge own3_o h; omega) | exact Own.ne_blk own3_o h_b4 (by decide) _ h rfl | exact Own.not_loop own3_o h_b4 (by assumption) _ h rfl | exact Own.not_def own3_o h_b4 _ h rfl | simp_all)
        replace own3 := N12
        replace rd := rd.updS U12 (lt_rd.imp_right fun h k hk hs => by have := h k hk; have := (Own.ge own3_o hs).1; omega)
        replace rdc := rdc.updS U12 (lt_rdc.imp_right fun h k hk hs => by have := h k hk; have := (Own.ge own3_o hs).1; omega)
        replace h_b8 := U12.get h_b8 (fun h => na_own3_b8 _ h rfl)
        replace h_b11 := U12.get h_b11 (fun h => na_own3_b11 _ h rfl)
        replace hF := hF.go U12 (fun i h hs => by first | exact hs | exact .inl hs | exact .inr hs | (have := (Own.ge own3_o hs).1; omega))
        clear own3_o
        rw [rows_append] at own3
        try simp only [List.nil_append] at own3
        obtain ⟨A12, c12, rfl⟩ := Own.open Gs.encIt own3
        refine opv_run (fieldAt_eq (off := 3) (by kernel_rfl)) ?_
        refine store1_intro (by kernel_rfl) rfl rfl h_b4 (by first | exact Nat.le_of_ble_eq_true rfl | (simp; done) | omega | (simp [vals_length, *]; done) | (simp [vals_length, *]; omega)) (by first | (simp [vals_set]; rfl) | rfl) (fun w13 N13 _ U13 => ?_)
        replace own3 := own3.upd1 U13 (by first | assumption | exact Own.ne_blk own3 (by assumption) (by decide) | exact Own.not_loop own3 (by assumption) (by assumption) | exact Own.not_def own3 (by assumption) | exact Own.not_loop own3 (by assumption) (lp3 _))
        replace rd := rd.upd1 U13 na_rd_b4
        replace rdc := rdc.upd1 U13 na_rdc_b4
        replace h_b1 := U13.get1 h_b1 ne_b1_b4
        replace h_b2 := U13.get1 h_b2 ne_b2_b4
        replace h_b8 := U13.get1 h_b8 (Ne.symm ne_b4_b8)
        replace h_b11 := U13.get1 h_b11 (Ne.symm ne_b4_b11)
        replace h_b4 := N13
        replace hF := hF.go1 U13 ge_b4
        first | refine opv_run (add_i64 _ (by omega)) ?_ | refine opv_run (addI _ _ _ _) ?_
        exact ⟨⟨k + 1, _, _, (by first | exact g16 | rfl), by omega, h_b1, h_b2, (by have e : min k l.length = k := (by omega); rw [e] at h_b4; exact h_b4), (by rw [Gs.take_1 hx7]; have e : (l.take k ++ [x7]).length = k + 1 := (by rw [List.length_append, List.length_take]; simp only [List.length_cons, List.length_nil]; omega); rw [e] at own3; exact own3), rd, rdc, hF⟩, cnt_lt (by first | rfl | exact g16) rfl (by omega)⟩
      · refine condf ?_
        refine hJ1 _ _ ?_
        exact ⟨_, _, h_b2, (by rw [show l.length = k by omega]; exact h_b4), (by rw [List.take_of_length_le (by omega), show k = l.length by omega] at own3; exact own3), rdc, hF⟩
  · obtain ⟨A3, c3, h_b2, h_b4, own3, rdc, hF⟩ := hI
    refine opv_run (ldA (n := 4) (by kernel_rfl) h_b4 (by first | exact Nat.le_of_ble_eq_true rfl | (simp; done) | omega) (by rfl)) ?_
    refine store_intro (n := 4) (by kernel_rfl) (by rfl) (by first | rfl | (simp [Value.cells, Value.oneCell', Gs.cv, Gs.ie]; done)) h_b2 (by first | exact Nat.le_of_ble_eq_true rfl | (simp; done) | omega) (by first | (simp; rfl) | rfl) (fun w14 N14 _ U14 => ?_)
    replace own3 := own3.upd1 U14 (by first | assumption | exact Own.ne_blk own3 (by assumption) (by decide) | exact Own.not_loop own3 (by assumption) (by assumption) | exact Own.not_def own3 (by assumption) | exact Own.not_loop own3 (by assumption) (lp3 _))
    replace rdc := rdc.upd1 U14 na_rdc_b2
    replace h_b4 := U14.get1 h_b4 (Ne.symm ne_b2_b4)
    replace h_b2 := N14
    replace hF := hF.go1 U14 ge_b2
    refine ldv_run (ldA (n := 4) (by kernel_rfl) h_b2 (by first | exact Nat.le_of_ble_eq_true rfl | simp | omega) (by rfl)) ?_
    exact ⟨_, rfl, A3, c3, rfl, own3.rdS, .inr (fun k hk => (own3.geb k hk).1), hF⟩

/-- greenscreen/greenscreenref25.Same -/
theorem c_ref25_Same {aid1 cur1 : Int} {al1 : Bool} {A1 : Option Addr} {n1 cp1 : Nat} {l1 : List Gs.It} {aid2 cur2 : Int} {al2 : Bool} {A2 : Option Addr} {n2 cp2 : Nat} {l2 : List Gs.It} {w : World} (rd1 : Rd w A1 (rows Gs.ie l1)) (hn1 : n1 = l1.length) (rdc1 : Gs.Cl w l1) (rd2 : Rd w A2 (rows Gs.ie l2)) (hn2 : n2 = l2.length) (rdc2 : Gs.Cl w l2) (hbd : n1 ≤ 100000) (hcb : ∀ x ∈ l1, x.cs.length ≤ 100000) :
    Calls Tryd.prog 12 #[.agg #[.int .u8 aid1, .bool al1, .int .i64 cur1, .slice A1 n1 cp1], .agg #[.int .u8 aid2, .bool al2, .int .i64 cur2, .slice A2 n2 cp2]] w fun e w' => e = .returned (.bool (decide (⟨aid1, al1, cur1, Gs.its l1⟩ = (⟨aid2, al2, cur2, Gs.its l2⟩ : Gs.Inb)))) ∧ Upd no w w' := by
  refine F12.calls ?_
  unfold F12
  have lt_rd1 := rd1.lt
  have lt_rdc1 := rdc1.lt
  have lt_rd2 := rd2.lt
  have lt_rdc2 := rdc2.lt
  have hF : Upd no w w := Fr.refl _ _ _
  refine box_intro (cs := #[.int .u8 aid1, .bool al1, .int .i64 cur1, .slice A1 n1 cp1]) (by rfl) (fun b1 w1 e1 h_b1 _ U1 => ?_)
  have na_rd1_b1 := rd1.apart e1
  have na_rdc1_b1 := rdc1.apart e1
  have na_rd2_b1 := rd2.apart e1
  have na_rdc2_b1 := rdc2.apart e1
  have ge_b1 : w.heap.size ≤ b1 := by have := hF.size; omega
  replace rd1 := rd1.upd0 U1
  replace rdc1 := rdc1.upd0 U1
  replace rd2 := rd2.upd0 U1
  replace rdc2 := rdc2.upd0 U1
  replace hF := hF.go0 U1
  clear e1
  refine box_intro (cs := #[.int .u8 aid2, .bool al2, .int .i64 cur2, .slice A2 n2 cp2]) (by rfl) (fun b2 w2 e2 h_b2 _ U2 => ?_)
  have na_rd1_b2 := rd1.apart e2
  have na_rdc1_b2 := rdc1.apart e2
  have na_rd2_b2 := rd2.apart e2
  have na_rdc2_b2 := rdc2.apart e2
  have ne_b1_b2 : b1 ≠ b2 := by have := lt_get h_b1; omega
  have ge_b2 : w.heap.size ≤ b2 := by have := hF.size; omega
  replace rd1 := rd1.upd0 U2
  replace rdc1 := rdc1.upd0 U2
  replace rd2 := rd2.upd0 U2
  replace rdc2 := rdc2.upd0 U2
  replace h_b1 := U2.get0 h_b1
  replace hF := hF.go0 U2
  clear e2
  refine opv_run (fieldAt_eq (off := 0) (by kernel_rfl)) ?_
  refine opv_run (ldC (by kernel_rfl) h_b1 (by rfl)) ?_
  refine opv_run (fieldAt_eq (off := 0) (by kernel_rfl)) ?_
  refine opv_run (ldC (by kernel_rfl) h_b2 (by rfl)) ?_
  refine opv_dec (neI _ _ _ _ _) (fun h3 => ?_) (fun h3 => ?_)
  · refine gdtf ?_
    refine gdtf ?_
    refine gdtf ?_
    refine gdtf ?_
    refine gdtf ?_
    refine pickt ?_
    refine gdtf ?_
    refine gdtf ?_
    refine gdtf ?_
    refine gdtf ?_
    refine gdtf ?_
    refine pickt ?_
    refine gdtf ?_
    refine gdtf ?_
    refine gdtf ?_
    refine gdtf ?_
    refine gdtf ?_
    refine gdtf ?_
    refine gdtf ?_
    refine pickt ?_
    refine condt ?_
    first | exact ⟨retT (by have e1 : aid1 = aid2 := (by first | assumption | exact Classical.not_not.1 (by assumption)); have e2 : al1 = al2 := (by first | assumption | exact Classical.not_not.1 (by assumption)); have e3 : cur1 = cur2 := (by first | assumption | exact Classical.not_not.1 (by assumption)); rw [e1, e2, e3, hall]), hF⟩ | exact ⟨retF (fun he => by have h1 : aid1 = aid2 := congrArg Gs.Inb.aid he; contradiction), hF⟩ | exact ⟨retF (fun he => by have h1 : al1 = al2 := congrArg Gs.Inb.alone he; contradiction), hF⟩ | exact ⟨retF (fun he => by have h1 : cur1 = cur2 := congrArg Gs.Inb.cur he; contradiction), hF⟩ | exact ⟨retF (fun he => by have h1 := Gs.its_lenE (congrArg Gs.Inb.items he); omega), hF⟩ | exact ⟨retF (fun he => absurd (Gs.its_get (congrArg Gs.Inb.items he) hx? hx?).1 (by assumption)), hF⟩ | exact ⟨retF (fun he => absurd (Gs.its_get (congrArg Gs.Inb.items he) hx? hx?).2 (by assumption)), hF⟩
  · refine gdff ?_
    refine opv_run (fieldAt_eq (off := 1) (by kernel_rfl)) ?_
    refine gdff ?_
    refine opv_run (ldC (by kernel_rfl) h_b1 (by rfl)) ?_
    refine gdff ?_
    refine opv_run (fieldAt_eq (off := 1) (by kernel_rfl)) ?_
    refine gdff ?_
    refine opv_run (ldC (by kernel_rfl) h_b2 (by rfl)) ?_
    refine gdff ?_
    refine opv_dec (neB _ _ (by kernel_rfl) _ _) (fun h5 => ?_) (fun h5 => ?_)
    · refine pickf ?_
      refine gdtf ?_
      refine gdtf ?_
      refine gdtf ?_
      refine gdtf ?_
      refine gdtf ?_
      refine pickt ?_
      refine gdtf ?_
      refine gdtf ?_
      refine gdtf ?_
      refine gdtf ?_
      refine gdtf ?_
      refine gdtf ?_
      refine gdtf ?_
      refine pickt ?_
      refine condt ?_
      first | exact ⟨retT (by have e1 : aid1 = aid2 := (by first | assumption | exact Classical.not_not.1 (by assumption)); have e2 : al1 = al2 := (by first | assumption | exact Classical.not_not.1 (by assumption)); have e3 : cur1 = cur2 := (by first | assumption | exact Classical.not_not.1 (by assumption)); rw [e1, e2, e3, hall]), hF⟩ | exact ⟨retF (fun he => by have h1 : aid1 = aid2 := congrArg Gs.Inb.aid he; contradiction), hF⟩ | exact ⟨retF (fun he => by have h1 : al1 = al2 := congrArg Gs.Inb.alone he; contradiction), hF⟩ | exact ⟨retF (fun he => by have h1 : cur1 = cur2 := congrArg Gs.Inb.cur he; contradiction), hF⟩ | exact ⟨retF (fun he => by have h1 := Gs.its_lenE (congrArg Gs.Inb.items he); omega), hF⟩ | exact ⟨retF (fun he => absurd (Gs.its_get (congrArg Gs.Inb.items he) hx? hx?).1 (by assumption)), hF⟩ | exact ⟨retF (fun he => absurd (Gs.its_get (congrArg Gs.Inb.items he) hx? hx?).2 (by assumption)), hF⟩
    · refine pickf ?_
      refine gdff ?_
      refine opv_run (fieldAt_eq (off := 2) (by kernel_rfl)) ?_
      refine gdff ?_
      refine opv_run (ldC (by kernel_rfl) h_b1 (by rfl)) ?_
      refine gdff ?_
      refine opv_run (fieldAt_eq (off := 2) (by kernel_rfl)) ?_
      refine gdff ?_
      refine opv_run (ldC (by kernel_rfl) h_b2 (by rfl)) ?_
      refine gdff ?_
      refine opv_dec (neI _ _ _ _ _) (fun h7 => ?_) (fun h7 => ?_)
      · refine pickf ?_
        refine gdtf ?_
        refine gdtf ?_
        refine gdtf ?_
        refine gdtf ?_
        refine gdtf ?_
        refine gdtf ?_
        refine gdtf ?_
        refine pickt ?_
        refine condt ?_
        first | exact ⟨retT (by have e1 : aid1 = aid2 := (by first | assumption | exact Classical.not_not.1 (by assumption)); have e2 : al1 = al2 := (by first | assumption | exact Classical.not_not.1 (by assumption)); have e3 : cur1 = cur2 := (by first | assumption | exact Classical.not_not.1 (by assumption)); rw [e1, e2, e3, hall]), hF⟩ | exact ⟨retF (fun he => by have h1 : aid1 = aid2 := congrArg Gs.Inb.aid he; contradiction), hF⟩ | exact ⟨retF (fun he => by have h1 : al1 = al2 := congrArg Gs.Inb.alone he; contradiction), hF⟩ | exact ⟨retF (fun he => by have h1 : cur1 = cur2 := congrArg Gs.Inb.cur he; contradiction), hF⟩ | exact ⟨retF (fun he => by have h1 := Gs.its_lenE (congrArg Gs.Inb.items he); omega), hF⟩ | exact ⟨retF (fun he => absurd (Gs.its_get (congrArg Gs.Inb.items he) hx? hx?).1 (by assumption)), hF⟩ | exact ⟨retF (fun he => absurd (Gs.its_get (congrArg Gs.Inb.items he) hx? hx?).2 (by assumption)), hF⟩
      · refine pickf ?_
        refine gdff ?_
        refine opv_run (fieldAt_eq (off := 3) (by kernel_rfl)) ?_
        refine gdff ?_
        refine opv_run (ldC (by kernel_rfl) h_b1 (by rfl)) ?_
        refine gdff ?_
        refine opv_run (len_sl (by kernel_rfl) _ _ _) ?_
        refine gdff ?_
        refine opv_run (fieldAt_eq (off := 3) (by kernel_rfl)) ?_
        refine gdff ?_
        refine opv_run (ldC (by kernel_rfl) h_b2 (by rfl)) ?_
        refine gdff ?_
        refine opv_run (len_sl (by kernel_rfl) _ _ _) ?_
        refine gdff ?_
        refine opv_dec (neI _ _ _ _ _) (fun h9 => ?_) (fun h9 => ?_)
        · refine pickf ?_
          refine condt ?_
          first | exact ⟨retT (by have e1 : aid1 = aid2 := (by first | assumption | exact Classical.not_not.1 (by assumption)); have e2 : al1 = al2 := (by first | assumption | exact Classical.not_not.1 (by assumption)); have e3 : cur1 = cur2 := (by first | assumption | exact Classical.not_not.1 (by assumption)); rw [e1, e2, e3, hall]), hF⟩ | exact ⟨retF (fun he => by have h1 : aid1 = aid2 := congrArg Gs.Inb.aid he; contradiction), hF⟩ | exact ⟨retF (fun he => by have h1 : al1 = al2 := congrArg Gs.Inb.alone he; contradiction), hF⟩ | exact ⟨retF (fun he => by have h1 : cur1 = cur2 := congrArg Gs.Inb.cur he; contradiction), hF⟩ | exact ⟨retF (fun he => by have h1 := Gs.its_lenE (congrArg Gs.Inb.items he); omega), hF⟩ | exact ⟨retF (fun he => absurd (Gs.its_get (congrArg Gs.Inb.items he) hx? hx?).1 (by assumption)), hF⟩ | exact ⟨retF (fun he => absurd (Gs.its_get (congrArg Gs.Inb.items he) hx? hx?).2 (by assumption)), hF⟩
        · refine pickf ?_
          refine condf ?_
          refine join_cut (fun g w' => (Gs.its l1 = Gs.its l2) ∧ (Upd no w w')) (fun J1 hJ1 => ?_) (fun gJ1 wJ1 hI => ?_)
          · refine loop_intro (fun g w' => ∃ (k : Nat), (g 5 = .int .i64 (k : Int)) ∧ (k ≤ l1.length) ∧ (Gs.its (l1.take k) = Gs.its (l2.take k)) ∧ (w'.heap[b1]? = some (.cells #[.int .u8 aid1, .bool al1, .int .i64 cur1, .slice A1 n1 cp1] 32 (0, 0))) ∧ (w'.heap[b2]? = some (.cells #[.int .u8 aid2, .bool al2, .int .i64 cur2, .slice A2 n2 cp2] 32 (0, 0))) ∧ (Rd w' A1 (rows Gs.ie l1)) ∧ (Gs.Cl w' l1) ∧ (Rd w' A2 (rows Gs.ie l2)) ∧ (Gs.Cl w' l2) ∧ (Upd no w w')) (fun g w' => l1.length - (RowKit.intOf (g 5)).toNat) ?_ (fun g2 wl2 hI => ?_)
            · exact ⟨0, (by first | exact g5 | rfl), Nat.zero_le _, rfl, h_b1, h_b2, rd1, rdc1, rd2, rdc2, hF⟩
            · obtain ⟨k, g5, hk, hall, h_b1, h_b2, rd1, rdc1, rd2, rdc2, hF⟩ := hI
              try rw [g5]
              refine opv_run (fieldAt_eq (off := 3) (by kernel_rfl)) ?_
              refine opv_run (ldC (by kernel_rfl) h_b1 (by rfl)) ?_
              refine opv_run (len_sl (by kernel_rfl) _ _ _) ?_
              refine opv_dec (lss _ _ _ _) (fun h11 => ?_) (fun h11 => ?_)
              · refine condt ?_
                refine drawn_S (S := no) (fun w12 U12 => ?_)
                replace rd1 := rd1.upd0 U12
                replace rdc1 := rdc1.upd0 U12
                replace rd2 := rd2.upd0 U12
                replace rdc2 := rdc2.upd0 U12
                replace h_b1 := U12.get0 h_b1
                replace h_b2 := U12.get0 h_b2
                replace hF := hF.go0 U12
                refine qop_run (fun w' hw' => (fieldAt_eq (off := 3) (by kernel_rfl))) ?_
                refine qop_run (fun w' hw' => by have h_b1 := hw'.get0 h_b1; exact (ldC (by kernel_rfl) h_b1 (by rfl))) ?_
                refine qidx_rowF (off := 0) Gs.encIt (fun x => .int .i64 x.at') (fun _ => rfl) (by decide) (by kernel_rfl) (by kernel_rfl) (by kernel_rfl) (fun w' hw' => rd1.upd0 hw') (Fr.refl _ _ _) (by first | rfl | assumption | omega) (by omega) (by omega) (fun x13 hx13 => ?_)
                try simp only [Int.toNat_natCast] at hx13
                refine qop_run (fun w' hw' => (fieldAt_eq (off := 3) (by kernel_rfl))) ?_
                refine qop_run (fun w' hw' => by have h_b2 := hw'.get0 h_b2; exact (ldC (by kernel_rfl) h_b2 (by rfl))) ?_
                refine qidx_rowF (off := 0) Gs.encIt (fun x => .int .i64 x.at') (fun _ => rfl) (by decide) (by kernel_rfl) (by kernel_rfl) (by kernel_rfl) (fun w' hw' => rd2.upd0 hw') (Fr.refl _ _ _) (by first | rfl | assumption | omega) (by omega) (by omega) (fun x14 hx14 => ?_)
                try simp only [Int.toNat_natCast] at hx14
                refine qop_dec (fun w' hw' => (neI _ _ _ _ _)) (fun h15 => ?_) (fun h15 => ?_)
                · refine qgdtf ?_
                  refine qgdtf ?_
                  refine qgdtf ?_
                  refine qgdtf ?_
                  refine qgdtf ?_
                  refine qgdtf ?_
                  refine qgdtf ?_
                  refine qgdtf ?_
                  refine qgdtf ?_
                  refine qgdtf ?_
                  refine qgdtf ?_
                  refine qgdtf ?_
                  refine qgdtf ?_
                  refine qgdtf ?_
                  refine qpickt ?_
                  refine ext_intro (fun w16 U16 => ?_)
                  replace rd1 := rd1.upd0 U16
                  replace rdc1 := rdc1.upd0 U16
                  replace rd2 := rd2.upd0 U16
                  replace rdc2 := rdc2.upd0 U16
                  replace h_b1 := U16.get0 h_b1
                  replace h_b2 := U16.get0 h_b2
                  replace hF := hF.go0 U16
                  refine condt ?_
                  first | exact ⟨retT (by have e1 : aid1 = aid2 := (by first | assumption | exact Classical.not_not.1 (by assumption)); have e2 : al1 = al2 := (by first | assumption | exact Classical.not_not.1 (by assumption)); have e3 : cur1 = cur2 := (by first | assumption | exact Classical.not_not.1 (by assumption)); rw [e1, e2, e3, hall]), hF⟩ | exact ⟨retF (fun he => by have h1 : aid1 = aid2 := congrArg Gs.Inb.aid he; contradiction), hF⟩ | exact ⟨retF (fun he => by have h1 : al1 = al2 := congrArg Gs.Inb.alone he; contradiction), hF⟩ | exact ⟨retF (fun he => by have h1 : cur1 = cur2 := congrArg Gs.Inb.cur he; contradiction), hF⟩ | exact ⟨retF (fun he => by have h1 := Gs.its_lenE (congrArg Gs.Inb.items he); omega), hF⟩ | exact ⟨retF (fun he => absurd (Gs.its_get (congrArg Gs.Inb.items he) hx13 hx14).1 (by assumption)), hF⟩ | exact ⟨retF (fun he => absurd (Gs.its_get (congrArg Gs.Inb.items he) hx? hx?).2 (by assumption)), hF⟩
                · refine qgdff ?_
                  refine qop_run (fun w' hw' => (fieldAt_eq (off := 3) (by kernel_rfl))) ?_
                  refine qgdff ?_
                  refine qop_run (fun w' hw' => by have h_b1 := hw'.get0 h_b1; exact (ldC (by kernel_rfl) h_b1 (by rfl))) ?_
                  refine qgdff ?_
                  refine qmove ?_
                  refine qgdff ?_
                  refine qidx_rowF (off := 1) Gs.encIt (fun x => .slice x.A x.cs.length x.cp) (fun _ => rfl) (by decide) (by kernel_rfl) (by kernel_rfl) (by kernel_rfl) (fun w' hw' => rd1.upd0 hw') (Fr.refl _ _ _) (by first | rfl | assumption | omega) (by omega) (by omega) (fun x18 hx18 => ?_)
                  try simp only [Int.toNat_natCast] at hx18
                  refine qgdff ?_
                  refine qop_run (fun w' hw' => (fieldAt_eq (off := 3) (by kernel_rfl))) ?_
                  refine qgdff ?_
                  refine qop_run (fun w' hw' => by have h_b2 := hw'.get0 h_b2; exact (ldC (by kernel_rfl) h_b2 (by rfl))) ?_
                  refine qgdff ?_
                  refine qmove ?_
                  refine qgdff ?_
                  refine qidx_rowF (off := 1) Gs.encIt (fun x => .slice x.A x.cs.length x.cp) (fun _ => rfl) (by decide) (by kernel_rfl) (by kernel_rfl) (by kernel_rfl) (fun w' hw' => rd2.upd0 hw') (Fr.refl _ _ _) (by first | rfl | assumption | omega) (by omega) (by omega) (fun x19 hx19 => ?_)
                  try simp only [Int.toNat_natCast] at hx19
                  refine qgdff ?_
                  refine qop_callb (fun w' hw' => by have rdc1 := rdc1.upd0 hw'; have rdc2 := rdc2.upd0 hw'; exact c_ref14_Same (rdc1.get hx18) rfl (rdc2.get hx19) rfl (hcb _ (List.mem_of_getElem? hx18))) (fun h20 => ?_) (fun h20 => ?_)
                  · try simp only [decide_eq_true_eq, decide_eq_false_iff_not] at h20
                    refine qgdff ?_
                    refine qop_run (fun w' hw' => (notT)) ?_
                    refine qpickf ?_
                    refine ext_intro (fun w21 U21 => ?_)
                    replace rd1 := rd1.upd0 U21
                    replace rdc1 := rdc1.upd0 U21
                    replace rd2 := rd2.upd0 U21
                    replace rdc2 := rdc2.upd0 U21
                    replace h_b1 := U21.get0 h_b1
                    replace h_b2 := U21.get0 h_b2
                    replace hF := hF.go0 U21
                    refine condf ?_
                    first | refine opv_run (add_i64 _ (by omega)) ?_ | refine opv_run (addI _ _ _ _) ?_
                    exact ⟨⟨k + 1, (by first | exact g5 | rfl), by omega, (Gs.its_step2 hall hx13 hx14 (by first | assumption | exact Classical.not_not.1 (by assumption)) hx18 hx19 (by assumption)), h_b1, h_b2, rd1, rdc1, rd2, rdc2, hF⟩, cnt_lt (by first | rfl | exact g5) rfl (by omega)⟩
                  · try simp only [decide_eq_true_eq, decide_eq_false_iff_not] at h20
                    refine qgdff ?_
                    refine qop_run (fun w' hw' => (notF)) ?_
                    refine qpickf ?_
                    refine ext_intro (fun w22 U22 => ?_)
                    replace rd1 := rd1.upd0 U22
                    replace rdc1 := rdc1.upd0 U22
                    replace rd2 := rd2.upd0 U22
                    replace rdc2 := rdc2.upd0 U22
                    replace h_b1 := U22.get0 h_b1
                    replace h_b2 := U22.get0 h_b2
                    replace hF := hF.go0 U22
                    refine condt ?_
                    first | exact ⟨retT (by have e1 : aid1 = aid2 := (by first | assumption | exact Classical.not_not.1 (by assumption)); have e2 : al1 = al2 := (by first | assumption | exact Classical.not_not.1 (by assumption)); have e3 : cur1 = cur2 := (by first | assumption | exact Classical.not_not.1 (by assumption)); rw [e1, e2, e3, hall]), hF⟩ | exact ⟨retF (fun he => by have h1 : aid1 = aid2 := congrArg Gs.Inb.aid he; contradiction), hF⟩ | exact ⟨retF (fun he => by have h1 : al1 = al2 := congrArg Gs.Inb.alone he; contradiction), hF⟩ | exact ⟨retF (fun he => by have h1 : cur1 = cur2 := congrArg Gs.Inb.cur he; contradiction), hF⟩ | exact ⟨retF (fun he => by have h1 := Gs.its_lenE (congrArg Gs.Inb.items he); omega), hF⟩ | exact ⟨retF (fun he => absurd (Gs.its_get (congrArg Gs.Inb.items he) hx13 hx14).1 (by assumption)), hF⟩ | exact ⟨retF (fun he => absurd (Gs.its_get (congrArg Gs.Inb.items he) hx18 hx19).2 (by assumption)), hF⟩
              · refine condf ?_
                refine hJ1 _ _ ?_
                exact ⟨(Gs.its_all hall (by omega) (by omega)), hF⟩
          · obtain ⟨hall, hF⟩ := hI
            first | exact ⟨retT (by have e1 : aid1 = aid2 := (by first | assumption | exact Classical.not_not.1 (by assumption)); have e2 : al1 = al2 := (by first | assumption | exact Classical.not_not.1 (by assumption)); have e3 : cur1 = cur2 := (by first | assumption | exact Classical.not_not.1 (by assumption)); rw [e1, e2, e3, hall]), hF⟩ | exact ⟨retF (fun he => by have h1 : aid1 = aid2 := congrArg Gs.Inb.aid he; contradiction), hF⟩ | exact ⟨retF (fun he => by have h1 : al1 = al2 := congrArg Gs.Inb.alone he; contradiction), hF⟩ | exact ⟨retF (fun he => by have h1 : cur1 = cur2 := congrArg Gs.Inb.cur he; contradiction), hF⟩ | exact ⟨retF (fun he => by have h1 := Gs.its_lenE (congrArg Gs.Inb.items he); omega), hF⟩ | exact ⟨retF (fun he => absurd (Gs.its_get (congrArg Gs.Inb.items he) hx13 hx14).1 (by assumption)), hF⟩ | exact ⟨retF (fun he => absurd (Gs.its_get (congrArg Gs.Inb.items he) hx18 hx19).2 (by assumption)), hF⟩

set_option maxHeartbeats 2000000 in
/-- greenscreen/greenscreenref25.Write -/
theorem c_ref25_Write {aid cur : Int} {al : Bool} {A : Option Addr} {n cp : Nat} {l : List Gs.It} {tot : Int} {w : World} (rd : Rd w A (rows Gs.ie l)) (hn : n = l.length) (rdc : Gs.Cl w l) (hiw : Gs.Iw l) (hbd : n ≤ 100000) (hcb : ∀ x ∈ l, x.cs.length ≤ 100000) :
    Calls Tryd.prog 19 #[.agg #[.int .u8 aid, .bool al, .int .i64 cur, .slice A n cp], .int .i64 tot] w fun e w' => ∃ v, e = .returned v ∧ ∃ u, v = .tuple #[u, .int .i64 (Gs.errV (Gs.writeM ⟨aid, al, cur, Gs.its l⟩ tot))] ∧ Own w.heap.size w' 5 1 u (vals .u8 (Gs.okL (Gs.writeM ⟨aid, al, cur, Gs.its l⟩ tot))) ∧ Upd no w w' := by
  refine F19.calls ?_
  unfold F19
  have lt_rd := rd.lt
  have lt_rdc := rdc.lt
  have hF : Upd no w w := Fr.refl _ _ _
  refine box_intro (cs := #[.int .u8 aid, .bool al, .int .i64 cur, .slice A n cp]) (by rfl) (fun b1 w1 e1 h_b1 _ U1 => ?_)
  have na_rd_b1 := rd.apart e1
  have na_rdc_b1 := rdc.apart e1
  have ge_b1 : w.heap.size ≤ b1 := by have := hF.size; omega
  replace rd := rd.upd0 U1
  replace rdc := rdc.upd0 U1
  replace hF := hF.go0 U1
  clear e1
  refine opv_run (fieldAt_eq (off := 1) (by kernel_rfl)) ?_
  refine opv_b (ldC (by kernel_rfl) h_b1 (by rfl)) (fun h2 => ?_) (fun h2 => ?_)
  · refine condt ?_
    refine opv_run (fieldAt_eq (off := 0) (by kernel_rfl)) ?_
    refine opv_run (ldC (by kernel_rfl) h_b1 (by rfl)) ?_
    refine buildSlice_intro (e := 5) (m := 1) (z := #[.int .u8 0]) (by kernel_rfl) (by kernel_rfl) (by rfl) (by decide) (by first | (simp [fillL, splice, repL, Value.cells, Gs.cv, Gs.ie]; done) | (simp [fillL, splice, repL, Value.cells, Gs.cv, Gs.ie]; rfl)) (fun b3 w3 e3 h_b3 _ U3 => ?_)
    have na_rd_b3 := rd.apart e3
    have na_rdc_b3 := rdc.apart e3
    have ne_b1_b3 : b1 ≠ b3 := by have := lt_get h_b1; omega
    have ge_b3 : w.heap.size ≤ b3 := by have := hF.size; omega
    replace rd := rd.upd0 U3
    replace rdc := rdc.upd0 U3
    replace h_b1 := U3.get0 h_b1
    replace hF := hF.go0 U3
    clear e3
    first | exact ⟨_, rfl, _, by rw [Gs.write_al (show al = true from by assumption)]; rfl, by rw [Gs.write_al (show al = true from by assumption)]; exact Own.of_block (n := 1) (xs := [_]) (by assumption) (by omega) rfl (by decide), hF⟩ | exact ⟨_, rfl, _, by rw [Gs.write_32 (show al = false from by assumption) (Gs.encP_none (by assumption))]; rfl, by rw [Gs.write_32 (show al = false from by assumption) (Gs.encP_none (by assumption))]; exact Own.nil _ _ _ _, hF⟩ | exact ⟨_, rfl, _, by rw [Gs.write_ok (show al = false from by assumption) henc hfin]; rfl, by rw [Gs.write_ok (show al = false from by assumption) henc hfin]; exact own8, hF⟩ | exact ⟨_, rfl, _, by rw [Gs.write_er (show al = false from by assumption) henc (Gs.items_er hacc hx? (show _ = Except.error 21 by rw [hpre, Gs.cellsW_21 hcc hx? (by first | exact Gs.may_st (by assumption) | exact Gs.may_l (by assumption) | exact Gs.may_c (by assumption) | exact Gs.may_b (by assumption) (by assumption) | exact Gs.may_p (by assumption) (by first | assumption | exact Bool.eq_false_iff.2 (by assumption)))]; rfl))]; rfl, by rw [Gs.write_er (show al = false from by assumption) henc (Gs.items_er hacc hx? (show _ = Except.error 21 by rw [hpre, Gs.cellsW_21 hcc hx? (by first | exact Gs.may_st (by assumption) | exact Gs.may_l (by assumption) | exact Gs.may_c (by assumption) | exact Gs.may_b (by assumption) (by assumption) | exact Gs.may_p (by assumption) (by first | assumption | exact Bool.eq_false_iff.2 (by assumption)))]; rfl))]; exact Own.nil _ _ _ _, hF⟩ | exact ⟨_, rfl, _, by rw [Gs.write_er (show al = false from by assumption) henc (Gs.items_er hacc hx? (Gs.itemW_32 (by first | exact .inl (by assumption) | exact .inr (decide_eq_false (by omega))) (Gs.encP_none (by assumption))))]; rfl, by rw [Gs.write_er (show al = false from by assumption) henc (Gs.items_er hacc hx? (Gs.itemW_32 (by first | exact .inl (by assumption) | exact .inr (decide_eq_false (by omega))) (Gs.encP_none (by assumption))))]; exact Own.nil _ _ _ _, hF⟩
  · refine condf ?_
    refine opv_run (fieldAt_eq (off := 2) (by kernel_rfl)) ?_
    refine opv_run (ldC (by kernel_rfl) h_b1 (by rfl)) ?_
    refine callF_val (c_ref02_Encode (p := cur) (n := tot)) (fun w5 U5 => ?_)
    replace rd := rd.upd0 U5
    replace rdc := rdc.upd0 U5
    replace h_b1 := U5.get0 h_b1
    replace hF := hF.go0 U5
    refine opv_run (ext_t (by rfl)) ?_
    refine opv_run (ext_t (by rfl)) ?_
    refine alloc_intro (cs := #[.int .u8 0, .int .u8 0]) (by kernel_rfl) (fun b6 w6 e6 h_b6 _ U6 => ?_)
    have na_rd_b6 := rd.apart e6
    have na_rdc_b6 := rdc.apart e6
    have ne_b1_b6 : b1 ≠ b6 := by have := lt_get h_b1; omega
    have ge_b6 : w.heap.size ≤ b6 := by have := hF.size; omega
    replace rd := rd.upd0 U6
    replace rdc := rdc.upd0 U6
    replace h_b1 := U6.get0 h_b1
    replace hF := hF.go0 U6
    clear e6
    refine store_intro (n := 2) (by kernel_rfl) (by rfl) (by first | rfl | (simp [Value.cells, Value.oneCell', Gs.cv, Gs.ie]; done)) h_b6 (by first | exact Nat.le_of_ble_eq_true rfl | (simp; done) | omega) (by first | (simp; rfl) | rfl) (fun w7 N7 _ U7 => ?_)
    replace rd := rd.upd1 U7 na_rd_b6
    replace rdc := rdc.upd1 U7 na_rdc_b6
    replace h_b1 := U7.get1 h_b1 ne_b1_b6
    replace h_b6 := N7
    replace hF := hF.go1 U7 ge_b6
    refine opv_dec (neI _ _ _ _ _) (fun h8 => ?_) (fun h8 => ?_)
    · refine condt ?_
      first | exact ⟨_, rfl, _, by rw [Gs.write_al (show al = true from by assumption)]; rfl, by rw [Gs.write_al (show al = true from by assumption)]; exact Own.of_block (n := 1) (xs := [_]) (by assumption) (by omega) rfl (by decide), hF⟩ | exact ⟨_, rfl, _, by rw [Gs.write_32 (show al = false from by assumption) (Gs.encP_none (by assumption))]; rfl, by rw [Gs.write_32 (show al = false from by assumption) (Gs.encP_none (by assumption))]; exact Own.nil _ _ _ _, hF⟩ | exact ⟨_, rfl, _, by rw [Gs.write_ok (show al = false from by assumption) henc hfin]; rfl, by rw [Gs.write_ok (show al = false from by assumption) henc hfin]; exact own8, hF⟩ | exact ⟨_, rfl, _, by rw [Gs.write_er (show al = false from by assumption) henc (Gs.items_er hacc hx? (show _ = Except.error 21 by rw [hpre, Gs.cellsW_21 hcc hx? (by first | exact Gs.may_st (by assumption) | exact Gs.may_l (by assumption) | exact Gs.may_c (by assumption) | exact Gs.may_b (by assumption) (by assumption) | exact Gs.may_p (by assumption) (by first | assumption | exact Bool.eq_false_iff.2 (by assumption)))]; rfl))]; rfl, by rw [Gs.write_er (show al = false from by assumption) henc (Gs.items_er hacc hx? (show _ = Except.error 21 by rw [hpre, Gs.cellsW_21 hcc hx? (by first | exact Gs.may_st (by assumption) | exact Gs.may_l (by assumption) | exact Gs.may_c (by assumption) | exact Gs.may_b (by assumption) (by assumption) | exact Gs.may_p (by assumption) (by first | assumption | exact Bool.eq_false_iff.2 (by assumption)))]; rfl))]; exact Own.nil _ _ _ _, hF⟩ | exact ⟨_, rfl, _, by rw [Gs.write_er (show al = false from by assumption) henc (Gs.items_er hacc hx? (Gs.itemW_32 (by first | exact .inl (by assumption) | exact .inr (decide_eq_false (by omega))) (Gs.encP_none (by assumption))))]; rfl, by rw [Gs.write_er (show al = false from by assumption) henc (Gs.items_er hacc hx? (Gs.itemW_32 (by first | exact .inl (by assumption) | exact .inr (decide_eq_false (by omega))) (Gs.encP_none (by assumption))))]; exact Own.nil _ _ _ _, hF⟩
    · refine condf ?_
      refine opv_run (fieldAt_eq (off := 0) (by kernel_rfl)) ?_
      refine opv_run (ldC (by kernel_rfl) h_b1 (by rfl)) ?_
      refine opv_run (index_arrp (n := 2) (m := 1) (by kernel_rfl) (by omega) (by omega)) ?_
      refine opv_run (ldC (by kernel_rfl) h_b6 (by rfl)) ?_
      refine opv_run (index_arrp (n := 2) (m := 1) (by kernel_rfl) (by omega) (by omega)) ?_
      refine opv_run (ldC (by kernel_rfl) h_b6 (by rfl)) ?_
      have henc := Gs.encP_some (p := cur) (n := tot) (Classical.not_not.1 (by assumption))
      refine buildSlice_intro (e := 5) (m := 1) (z := #[.int .u8 0]) (by kernel_rfl) (by kernel_rfl) (by rfl) (by decide) (by first | (simp [fillL, splice, repL, Value.cells, Gs.cv, Gs.ie]; done) | (simp [fillL, splice, repL, Value.cells, Gs.cv, Gs.ie]; rfl)) (fun b10 w10 e10 h_b10 _ U10 => ?_)
      have na_rd_b10 := rd.apart e10
      have na_rdc_b10 := rdc.apart e10
      have ne_b1_b10 : b1 ≠ b10 := by have := lt_get h_b1; omega
      have ne_b6_b10 : b6 ≠ b10 := by have := lt_get h_b6; omega
      have ge_b10 : w.heap.size ≤ b10 := by have := hF.size; omega
      replace rd := rd.upd0 U10
      replace rdc := rdc.upd0 U10
      replace h_b1 := U10.get0 h_b1
      replace h_b6 := U10.get0 h_b6
      replace hF := hF.go0 U10
      clear e10
      refine join_cut (fun g w' => ∃ (v8 : Value) (acc : List Int), (g 8 = v8) ∧ (Gs.itemsW tot true (Gs.its l) = .ok acc) ∧ (Own w.heap.size w' 5 1 v8 (vals .u8 (aid :: (Gs.encP cur tot).1 :: (Gs.encP cur tot).2.1 :: acc))) ∧ (Upd no w w')) (fun J1 hJ1 => ?_) (fun gJ1 wJ1 hI => ?_)
      · refine loop_intro (fun g w' => ∃ (k : Nat) (v8 : Value) (acc : List Int), (g 9 = .int .i64 (k : Int)) ∧ (k ≤ l.length) ∧ (g 8 = v8) ∧ (Gs.itemsW tot true (Gs.its (l.take k)) = .ok acc) ∧ (acc.length ≤ 200003 * k) ∧ (Own w.heap.size w' 5 1 v8 (vals .u8 (aid :: (Gs.encP cur tot).1 :: (Gs.encP cur tot).2.1 :: acc))) ∧ (w'.heap[b1]? = some (.cells #[.int .u8 aid, .bool al, .int .i64 cur, .slice A n cp] 32 (0, 0))) ∧ (Rd w' A (rows Gs.ie l)) ∧ (Gs.Cl w' l) ∧ (Upd no w w')) (fun g w' => l.length - (RowKit.intOf (g 9)).toNat) ?_ (fun g2 wl2 hI => ?_)
        · exact ⟨0, _, [], (by first | exact g9 | rfl), Nat.zero_le _, rfl, rfl, (by simp), (Own.of_block (n := 3) (xs := [_, _, _]) h_b10 (by omega) rfl (by decide)), h_b1, rd, rdc, hF⟩
        · obtain ⟨k, v8, acc, g9, hk, g8, hacc, hal, own8, h_b1, rd, rdc, hF⟩ := hI
          try rw [g9]
          try rw [g8]
          refine opv_run (fieldAt_eq (off := 3) (by kernel_rfl)) ?_
          refine opv_run (ldC (by kernel_rfl) h_b1 (by rfl)) ?_
          refine opv_run (len_sl (by kernel_rfl) _ _ _) ?_
          refine opv_dec (lss _ _ _ _) (fun h11 => ?_) (fun h11 => ?_)
          · refine condt ?_
            refine join_cut (fun g w' => ∃ (v8 : Value) (m3 : List Int) (xk : Gs.It), (g 8 = v8) ∧ (l[k]? = some xk) ∧ (Gs.itemW ((xk).at', (xk).cs) (decide ((k : Int) = 0)) tot = .ok m3) ∧ (Own w.heap.size w' 5 1 v8 (vals .u8 (aid :: (Gs.encP cur tot).1 :: (Gs.encP cur tot).2.1 :: (acc ++ m3)))) ∧ (w'.heap[b1]? = some (.cells #[.int .u8 aid, .bool al, .int .i64 cur, .slice A n cp] 32 (0, 0))) ∧ (Rd w' A (rows Gs.ie l)) ∧ (Gs.Cl w' l) ∧ (Upd no w w')) (fun J3 hJ3 => ?_) (fun gJ3 wJ3 hI => ?_)
            · refine opv_run (fieldAt_eq (off := 3) (by kernel_rfl)) ?_
              refine opv_run (ldC (by kernel_rfl) h_b1 (by rfl)) ?_
              refine idx_rows Gs.encIt (by kernel_rfl) (by kernel_rfl) rd (by first | rfl | assumption | omega) (by omega) (by omega) (fun x12 hx12 => ?_)
              try simp only [Int.toNat_natCast] at hx12
              refine alloc_intro (cs := #[.int .i64 0, .slice none 0 0]) (by kernel_rfl) (fun b13 w13 e13 h_b13 _ U13 => ?_)
              have na_own8_b13 := own8.apart e13
              have ne_b1_b13 : b1 ≠ b13 := by have := lt_get h_b1; omega
              have na_rd_b13 := rd.apart e13
              have na_rdc_b13 := rdc.apart e13
              have ge_b13 : w.heap.size ≤ b13 := by have := hF.size; omega
              replace own8 := own8.upd0 U13
              replace rd := rd.upd0 U13
              replace rdc := rdc.upd0 U13
              replace h_b1 := U13.get0 h_b1
              replace hF := hF.go0 U13
              clear e13
              refine store_intro (n := 2) (cs' := (Gs.ie x12).toArray) (by kernel_rfl) (by rfl) (by first | rfl | (simp [Value.cells, Value.oneCell', Gs.cv, Gs.ie]; done)) h_b13 (by first | exact Nat.le_of_ble_eq_true rfl | (simp; done) | omega) (by rfl) (fun w14 N14 _ U14 => ?_)
              replace own8 := own8.upd1 U14 na_own8_b13
              replace rd := rd.upd1 U14 na_rd_b13
              replace rdc := rdc.upd1 U14 na_rdc_b13
              replace h_b1 := U14.get1 h_b1 ne_b1_b13
              replace h_b13 := N14
              replace hF := hF.go1 U14 ge_b13
              refine join_cut (fun g w' => ∃ (v8 : Value) (pre : List Int), (g 8 = v8) ∧ (Gs.itemW ((x12).at', (x12).cs) (decide ((k : Int) = 0)) tot = Gs.pfxW pre (Gs.cellsW (x12).cs)) ∧ (pre.length ≤ 3) ∧ (Own w.heap.size w' 5 1 v8 (vals .u8 ((aid :: (Gs.encP cur tot).1 :: (Gs.encP cur tot).2.1 :: acc) ++ pre))) ∧ (w'.heap[b1]? = some (.cells #[.int .u8 aid, .bool al, .int .i64 cur, .slice A n cp] 32 (0, 0))) ∧ (w'.heap[b13]? = some (.cells (Gs.ie x12).toArray 65 (0, 0))) ∧ (Rd w' A (rows Gs.ie l)) ∧ (Gs.Cl w' l) ∧ (Upd no w w')) (fun J4 hJ4 => ?_) (fun gJ4 wJ4 hI => ?_)
              · refine opv_run (fieldAt_eq (off := 0) (by kernel_rfl)) ?_
                refine opv_run (ldC (by kernel_rfl) h_b13 (by rfl)) ?_
                refine opv_dec (neI _ _ _ _ _) (fun h15 => ?_) (fun h15 => ?_)
                · refine gdtf ?_
                  refine gdtf ?_
                  refine pickt ?_
                  refine condt ?_
                  refine opv_run (fieldAt_eq (off := 0) (by kernel_rfl)) ?_
                  refine opv_run (ldC (by kernel_rfl) h_b13 (by rfl)) ?_
                  refine callF_val (c_ref02_Encode (p := (x12).at') (n := tot)) (fun w16 U16 => ?_)
                  replace own8 := own8.upd0 U16
                  replace rd := rd.upd0 U16
                  replace rdc := rdc.upd0 U16
                  replace h_b1 := U16.get0 h_b1
                  replace h_b13 := U16.get0 h_b13
                  replace hF := hF.go0 U16
                  refine opv_run (ext_t (by rfl)) ?_
                  refine opv_run (ext_t (by rfl)) ?_
                  refine alloc_intro (cs := #[.int .u8 0, .int .u8 0]) (by kernel_rfl) (fun b17 w17 e17 h_b17 _ U17 => ?_)
                  have na_own8_b17 := own8.apart e17
                  have ne_b1_b17 : b1 ≠ b17 := by have := lt_get h_b1; omega
                  have na_rd_b17 := rd.apart e17
                  have na_rdc_b17 := rdc.apart e17
                  have ne_b13_b17 : b13 ≠ b17 := by have := lt_get h_b13; omega
                  have ge_b17 : w.heap.size ≤ b17 := by have := hF.size; omega
                  replace own8 := own8.upd0 U17
                  replace rd := rd.upd0 U17
                  replace rdc := rdc.upd0 U17
                  replace h_b1 := U17.get0 h_b1
                  replace h_b13 := U17.get0 h_b13
                  replace hF := hF.go0 U17
                  clear e17
                  refine store_intro (n := 2) (by kernel_rfl) (by rfl) (by first | rfl | (simp [Value.cells, Value.oneCell', Gs.cv, Gs.ie]; done)) h_b17 (by first | exact Nat.le_of_ble_eq_true rfl | (simp; done) | omega) (by first | (simp; rfl) | rfl) (fun w18 N18 _ U18 => ?_)
                  replace own8 := own8.upd1 U18 na_own8_b17
                  replace rd := rd.upd1 U18 na_rd_b17
                  replace rdc := rdc.upd1 U18 na_rdc_b17
                  replace h_b1 := U18.get1 h_b1 ne_b1_b17
                  replace h_b13 := U18.get1 h_b13 ne_b13_b17
                  replace h_b17 := N18
                  replace hF := hF.go1 U18 ge_b17
                  refine opv_dec (neI _ _ _ _ _) (fun h19 => ?_) (fun h19 => ?_)
                  · refine condt ?_
                    first | exact ⟨_, rfl, _, by rw [Gs.write_al (show al = true from by assumption)]; rfl, by rw [Gs.write_al (show al = true from by assumption)]; exact Own.of_block (n := 1) (xs := [_]) (by assumption) (by omega) rfl (by decide), hF⟩ | exact ⟨_, rfl, _, by rw [Gs.write_32 (show al = false from by assumption) (Gs.encP_none (by assumption))]; rfl, by rw [Gs.write_32 (show al = false from by assumption) (Gs.encP_none (by assumption))]; exact Own.nil _ _ _ _, hF⟩ | exact ⟨_, rfl, _, by rw [Gs.write_ok (show al = false from by assumption) henc hfin]; rfl, by rw [Gs.write_ok (show al = false from by assumption) henc hfin]; exact own8, hF⟩ | exact ⟨_, rfl, _, by rw [Gs.write_er (show al = false from by assumption) henc (Gs.items_er hacc hx12 (show _ = Except.error 21 by rw [hpre, Gs.cellsW_21 hcc hx? (by first | exact Gs.may_st (by assumption) | exact Gs.may_l (by assumption) | exact Gs.may_c (by assumption) | exact Gs.may_b (by assumption) (by assumption) | exact Gs.may_p (by assumption) (by first | assumption | exact Bool.eq_false_iff.2 (by assumption)))]; rfl))]; rfl, by rw [Gs.write_er (show al = false from by assumption) henc (Gs.items_er hacc hx12 (show _ = Except.error 21 by rw [hpre, Gs.cellsW_21 hcc hx? (by first | exact Gs.may_st (by assumption) | exact Gs.may_l (by assumption) | exact Gs.may_c (by assumption) | exact Gs.may_b (by assumption) (by assumption) | exact Gs.may_p (by assumption) (by first | assumption | exact Bool.eq_false_iff.2 (by assumption)))]; rfl))]; exact Own.nil _ _ _ _, hF⟩ | exact ⟨_, rfl, _, by rw [Gs.write_er (show al = false from by assumption) henc (Gs.items_er hacc hx12 (Gs.itemW_32 (by first | exact .inl (by assumption) | exact .inr (decide_eq_false (by omega))) (Gs.encP_none (by assumption))))]; rfl, by rw [Gs.write_er (show al = false from by assumption) henc (Gs.items_er hacc hx12 (Gs.itemW_32 (by first | exact .inl (by assumption) | exact .inr (decide_eq_false (by omega))) (Gs.encP_none (by assumption))))]; exact Own.nil _ _ _ _, hF⟩
                  · refine condf ?_
                    refine opv_run (index_arrp (n := 2) (m := 1) (by kernel_rfl) (by omega) (by omega)) ?_
                    refine opv_run (ldC (by kernel_rfl) h_b17 (by rfl)) ?_
                    refine opv_run (index_arrp (n := 2) (m := 1) (by kernel_rfl) (by omega) (by omega)) ?_
                    refine opv_run (ldC (by kernel_rfl) h_b17 (by rfl)) ?_
                    refine buildSlice_intro (e := 5) (m := 1) (z := #[.int .u8 0]) (by kernel_rfl) (by kernel_rfl) (by rfl) (by decide) (by first | (simp [fillL, splice, repL, Value.cells, Gs.cv, Gs.ie]; done) | (simp [fillL, splice, repL, Value.cells, Gs.cv, Gs.ie]; rfl)) (fun b21 w21 e21 h_b21 _ U21 => ?_)
                    have na_own8_b21 := own8.apart e21
                    have ne_b1_b21 : b1 ≠ b21 := by have := lt_get h_b1; omega
                    have na_rd_b21 := rd.apart e21
                    have na_rdc_b21 := rdc.apart e21
                    have ne_b13_b21 : b13 ≠ b21 := by have := lt_get h_b13; omega
                    have ne_b17_b21 : b17 ≠ b21 := by have := lt_get h_b17; omega
                    have ge_b21 : w.heap.size ≤ b21 := by have := hF.size; omega
                    replace own8 := own8.upd0 U21
                    replace rd := rd.upd0 U21
                    replace rdc := rdc.upd0 U21
                    replace h_b1 := U21.get0 h_b1
                    replace h_b13 := U21.get0 h_b13
                    replace h_b17 := U21.get0 h_b17
                    replace hF := hF.go0 U21
                    clear e21
                    refine app_intro (e := 5) (size := 1) (bytes := 1) (by kernel_rfl) own8 (Rd.of_blockL h_b21) rfl (by first | (simp [Value.oneCell']; done) | (intro u hu; simp only [List.mem_singleton] at hu; subst hu; rfl) | (simp; intros; subst_vars; rfl)) (by simp only [vals_length, List.length_take, List.length_cons, List.length_nil, List.length_append, List.length_map, List.length_range]; omega) (by have := hF.size; omega) (fun v22 w22 N22 U22 => ?_)
                    have own8_o := own8
                    replace own8 := N22
                    replace h_b1 := U22.get h_b1 (fun h => by first | (have := Own.ge own8_o h; omega) | exact Own.ne_blk own8_o h_b1 (by decide) _ h rfl | exact Own.not_loop own8_o h_b1 (by assumption) _ h rfl | exact Own.not_def own8_o h_b1 _ h rfl | simp_all)
                    replace rd := rd.updS U22 (lt_rd.imp_right fun h k hk hs => by have := h k hk; have := (Own.ge own8_o hs).1; omega)
                    replace rdc := rdc.updS U22 (lt_rdc.imp_right fun h k hk hs => by have := h k hk; have := (Own.ge own8_o hs).1; omega)
                    replace h_b13 := U22.get h_b13 (fun h => na_own8_b13 _ h rfl)
                    replace h_b17 := U22.get h_b17 (fun h => na_own8_b17 _ h rfl)
                    replace h_b21 := U22.get h_b21 (fun h => na_own8_b21 _ h rfl)
                    replace hF := hF.go U22 (fun i h hs => by first | exact hs | exact .inl hs | exact .inr hs | (have := (Own.ge own8_o hs).1; omega))
                    clear own8_o
                    refine hJ4 _ _ ?_
                    exact ⟨_, _, (by first | exact g8 | rfl), (by first | exact Gs.itemW_p (by first | exact .inl (by assumption) | exact .inr (decide_eq_false (by omega))) (Gs.encP_some (Classical.not_not.1 (by assumption))) | exact Gs.itemW_n (Classical.not_not.1 (by assumption)) (decide_eq_true (by omega))), (by simp), (by first | exact Gs.own_app (m := [_, _, _]) own8 | (rw [List.append_nil]; exact own8)), h_b1, h_b13, rd, rdc, hF⟩
                · refine gdff ?_
                  refine gdff ?_
                  refine opv_dec (gtr _ _ _ _) (fun h23 => ?_) (fun h23 => ?_)
                  · refine pickf ?_
                    refine condt ?_
                    refine opv_run (fieldAt_eq (off := 0) (by kernel_rfl)) ?_
                    refine opv_run (ldC (by kernel_rfl) h_b13 (by rfl)) ?_
                    refine callF_val (c_ref02_Encode (p := (x12).at') (n := tot)) (fun w24 U24 => ?_)
                    replace own8 := own8.upd0 U24
                    replace rd := rd.upd0 U24
                    replace rdc := rdc.upd0 U24
                    replace h_b1 := U24.get0 h_b1
                    replace h_b13 := U24.get0 h_b13
                    replace hF := hF.go0 U24
                    refine opv_run (ext_t (by rfl)) ?_
                    refine opv_run (ext_t (by rfl)) ?_
                    refine alloc_intro (cs := #[.int .u8 0, .int .u8 0]) (by kernel_rfl) (fun b25 w25 e25 h_b25 _ U25 => ?_)
                    have na_own8_b25 := own8.apart e25
                    have ne_b1_b25 : b1 ≠ b25 := by have := lt_get h_b1; omega
                    have na_rd_b25 := rd.apart e25
                    have na_rdc_b25 := rdc.apart e25
                    have ne_b13_b25 : b13 ≠ b25 := by have := lt_get h_b13; omega
                    have ge_b25 : w.heap.size ≤ b25 := by have := hF.size; omega
                    replace own8 := own8.upd0 U25
                    replace rd := rd.upd0 U25
                    replace rdc := rdc.upd0 U25
                    replace h_b1 := U25.get0 h_b1
                    replace h_b13 := U25.get0 h_b13
                    replace hF := hF.go0 U25
                    clear e25
                    refine store_intro (n := 2) (by kernel_rfl) (by rfl) (by first | rfl | (simp [Value.cells, Value.oneCell', Gs.cv, Gs.ie]; done)) h_b25 (by first | exact Nat.le_of_ble_eq_true rfl | (simp; done) | omega) (by first | (simp; rfl) | rfl) (fun w26 N26 _ U26 => ?_)
                    replace own8 := own8.upd1 U26 na_own8_b25
                    replace rd := rd.upd1 U26 na_rd_b25
                    replace rdc := rdc.upd1 U26 na_rdc_b25
                    replace h_b1 := U26.get1 h_b1 ne_b1_b25
                    replace h_b13 := U26.get1 h_b13 ne_b13_b25
                    replace h_b25 := N26
                    replace hF := hF.go1 U26 ge_b25
                    refine opv_dec (neI _ _ _ _ _) (fun h27 => ?_) (fun h27 => ?_)
                    · refine condt ?_
                      first | exact ⟨_, rfl, _, by rw [Gs.write_al (show al = true from by assumption)]; rfl, by rw [Gs.write_al (show al = true from by assumption)]; exact Own.of_block (n := 1) (xs := [_]) (by assumption) (by omega) rfl (by decide), hF⟩ | exact ⟨_, rfl, _, by rw [Gs.write_32 (show al = false from by assumption) (Gs.encP_none (by assumption))]; rfl, by rw [Gs.write_32 (show al = false from by assumption) (Gs.encP_none (by assumption))]; exact Own.nil _ _ _ _, hF⟩ | exact ⟨_, rfl, _, by rw [Gs.write_ok (show al = false from by assumption) henc hfin]; rfl, by rw [Gs.write_ok (show al = false from by assumption) henc hfin]; exact own8, hF⟩ | exact ⟨_, rfl, _, by rw [Gs.write_er (show al = false from by assumption) henc (Gs.items_er hacc hx12 (show _ = Except.error 21 by rw [hpre, Gs.cellsW_21 hcc hx? (by first | exact Gs.may_st (by assumption) | exact Gs.may_l (by assumption) | exact Gs.may_c (by assumption) | exact Gs.may_b (by assumption) (by assumption) | exact Gs.may_p (by assumption) (by first | assumption | exact Bool.eq_false_iff.2 (by assumption)))]; rfl))]; rfl, by rw [Gs.write_er (show al = false from by assumption) henc (Gs.items_er hacc hx12 (show _ = Except.error 21 by rw [hpre, Gs.cellsW_21 hcc hx? (by first | exact Gs.may_st (by assumption) | exact Gs.may_l (by assumption) | exact Gs.may_c (by assumption) | exact Gs.may_b (by assumption) (by assumption) | exact Gs.may_p (by assumption) (by first | assumption | exact Bool.eq_false_iff.2 (by assumption)))]; rfl))]; exact Own.nil _ _ _ _, hF⟩ | exact ⟨_, rfl, _, by rw [Gs.write_er (show al = false from by assumption) henc (Gs.items_er hacc hx12 (Gs.itemW_32 (by first | exact .inl (by assumption) | exact .inr (decide_eq_false (by omega))) (Gs.encP_none (by assumption))))]; rfl, by rw [Gs.write_er (show al = false from by assumption) henc (Gs.items_er hacc hx12 (Gs.itemW_32 (by first | exact .inl (by assumption) | exact .inr (decide_eq_false (by omega))) (Gs.encP_none (by assumption))))]; exact Own.nil _ _ _ _, hF⟩
                    · refine condf ?_
                      refine opv_run (index_arrp (n := 2) (m := 1) (by kernel_rfl) (by omega) (by omega)) ?_
                      refine opv_run (ldC (by kernel_rfl) h_b25 (by rfl)) ?_
                      refine opv_run (index_arrp (n := 2) (m := 1) (by kernel_rfl) (by omega) (by omega)) ?_
                      refine opv_run (ldC (by kernel_rfl) h_b25 (by rfl)) ?_
                      refine buildSlice_intro (e := 5) (m := 1) (z := #[.int .u8 0]) (by kernel_rfl) (by kernel_rfl) (by rfl) (by decide) (by first | (simp [fillL, splice, repL, Value.cells, Gs.cv, Gs.ie]; done) | (simp [fillL, splice, repL, Value.cells, Gs.cv, Gs.ie]; rfl)) (fun b29 w29 e29 h_b29 _ U29 => ?_)
                      have na_own8_b29 := own8.apart e29
                      have ne_b1_b29 : b1 ≠ b29 := by have := lt_get h_b1; omega
                      have na_rd_b29 := rd.apart e29
                      have na_rdc_b29 := rdc.apart e29
                      have ne_b13_b29 : b13 ≠ b29 := by have := lt_get h_b13; omega
                      have ne_b25_b29 : b25 ≠ b29 := by have := lt_get h_b25; omega
                      have ge_b29 : w.heap.size ≤ b29 := by have := hF.size; omega
                      replace own8 := own8.upd0 U29
                      replace rd := rd.upd0 U29
                      replace rdc := rdc.upd0 U29
                      replace h_b1 := U29.get0 h_b1
                      replace h_b13 := U29.get0 h_b13
                      replace h_b25 := U29.get0 h_b25
                      replace hF := hF.go0 U29
                      clear e29
                      refine app_intro (e := 5) (size := 1) (bytes := 1) (by kernel_rfl) own8 (Rd.of_blockL h_b29) rfl (by first | (simp [Value.oneCell']; done) | (intro u hu; simp only [List.mem_singleton] at hu; subst hu; rfl) | (simp; intros; subst_vars; rfl)) (by simp only [vals_length, List.length_take, List.length_cons, List.length_nil, List.length_append, List.length_map, List.length_range]; omega) (by have := hF.size; omega) (fun v30 w30 N30 U30 => ?_)
                      have own8_o := own8
                      replace own8 := N30
                      replace h_b1 := U30.get h_b1 (fun h => by first | (have := Own.ge own8_o h; omega) | exact Own.ne_blk own8_o h_b1 (by decide) _ h rfl | exact Own.not_loop own8_o h_b1 (by assumption) _ h rfl | exact Own.not_def own8_o h_b1 _ h rfl | simp_all)
                      replace rd := rd.updS U30 (lt_rd.imp_right fun h k hk hs => by have := h k hk; have := (Own.ge own8_o hs).1; omega)
                      replace rdc := rdc.updS U30 (lt_rdc.imp_right fun h k hk hs => by have := h k hk; have := (Own.ge own8_o hs).1; omega)
                      replace h_b13 := U30.get h_b13 (fun h => na_own8_b13 _ h rfl)
                      replace h_b25 := U30.get h_b25 (fun h => na_own8_b25 _ h rfl)
                      replace h_b29 := U30.get h_b29 (fun h => na_own8_b29 _ h rfl)
                      replace hF := hF.go U30 (fun i h hs => by first | exact hs | exact .inl hs | exact .inr hs | (have := (Own.ge own8_o hs).1; omega))
                      clear own8_o
                      refine hJ4 _ _ ?_
                      exact ⟨_, _, (by first | exact g8 | rfl), (by first | exact Gs.itemW_p (by first | exact .inl (by assumption) | exact .inr (decide_eq_false (by omega))) (Gs.encP_some (Classical.not_not.1 (by assumption))) | exact Gs.itemW_n (Classical.not_not.1 (by assumption)) (decide_eq_true (by omega))), (by simp), (by first | exact Gs.own_app (m := [_, _, _]) own8 | (rw [List.append_nil]; exact own8)), h_b1, h_b13, rd, rdc, hF⟩
                  · refine pickf ?_
                    refine condf ?_
                    refine hJ4 _ _ ?_
                    exact ⟨_, _, (by first | exact g8 | rfl), (by first | exact Gs.itemW_p (by first | exact .inl (by assumption) | exact .inr (decide_eq_false (by omega))) (Gs.encP_some (Classical.not_not.1 (by assumption))) | exact Gs.itemW_n (Classical.not_not.1 (by assumption)) (decide_eq_true (by omega))), (by simp), (by first | exact Gs.own_app (m := [_, _, _]) own8 | (rw [List.append_nil]; exact own8)), h_b1, h_b13, rd, rdc, hF⟩
              · obtain ⟨v8, pre, g8, hpre, hpl, own8, h_b1, h_b13, rd, rdc, hF⟩ := hI
                try rw [g8]
                have hcl := hcb _ (List.mem_of_getElem? hx12)
                refine loop_intro (fun g w' => ∃ (m : Nat) (v8 : Value) (cacc : List Int), (g 13 = .int .i64 (m : Nat)) ∧ (m ≤ (x12).cs.length) ∧ (g 8 = v8) ∧ (Gs.cellsW ((x12).cs.take m) = .ok cacc) ∧ (cacc.length ≤ 2 * m) ∧ (Own w.heap.size w' 5 1 v8 (vals .u8 ((aid :: (Gs.encP cur tot).1 :: (Gs.encP cur tot).2.1 :: acc) ++ pre ++ cacc))) ∧ (w'.heap[b1]? = some (.cells #[.int .u8 aid, .bool al, .int .i64 cur, .slice A n cp] 32 (0, 0))) ∧ (w'.heap[b13]? = some (.cells (Gs.ie x12).toArray 65 (0, 0))) ∧ (Rd w' A (rows Gs.ie l)) ∧ (Gs.Cl w' l) ∧ (Upd no w w')) (fun g w' => (x12).cs.length - (RowKit.intOf (g 13)).toNat) ?_ (fun g5 wl5 hI => ?_)
                · exact ⟨0, _, [], rfl, (by omega), (by first | exact g8 | rfl), rfl, (by simp), (by rw [List.append_nil]; exact own8), h_b1, h_b13, rd, rdc, hF⟩
                · obtain ⟨m, v8, cacc, g13, hm, g8, hcc, hca, own8, h_b1, h_b13, rd, rdc, hF⟩ := hI
                  try rw [g13]
                  try rw [g8]
                  refine opv_run (fieldAt_eq (off := 1) (by kernel_rfl)) ?_
                  refine opv_run (ldC (by kernel_rfl) h_b13 (by rfl)) ?_
                  refine opv_run (len_sl (by kernel_rfl) _ _ _) ?_
                  refine opv_dec (lss _ _ _ _) (fun h31 => ?_) (fun h31 => ?_)
                  · refine condt ?_
                    refine opv_run (fieldAt_eq (off := 1) (by kernel_rfl)) ?_
                    refine opv_run (ldC (by kernel_rfl) h_b13 (by rfl)) ?_
                    refine idx_rows Gs.encC (by kernel_rfl) (by kernel_rfl) (rdc.get hx12) (by first | rfl | assumption | omega) (by omega) (by omega) (fun x32 hx32 => ?_)
                    try simp only [Int.toNat_natCast] at hx32
                    refine alloc_intro (cs := (Gs.cv Gs.zc).toArray) (by kernel_rfl) (fun b33 w33 e33 h_b33 _ U33 => ?_)
                    have na_own8_b33 := own8.apart e33
                    have ne_b1_b33 : b1 ≠ b33 := by have := lt_get h_b1; omega
                    have ne_b13_b33 : b13 ≠ b33 := by have := lt_get h_b13; omega
                    have na_rd_b33 := rd.apart e33
                    have na_rdc_b33 := rdc.apart e33
                    have ge_b33 : w.heap.size ≤ b33 := by have := hF.size; omega
                    replace own8 := own8.upd0 U33
                    replace rd := rd.upd0 U33
                    replace rdc := rdc.upd0 U33
                    replace h_b1 := U33.get0 h_b1
                    replace h_b13 := U33.get0 h_b13
                    replace hF := hF.go0 U33
                    clear e33
                    refine store_intro (n := 5) (cs' := (Gs.cv x32).toArray) (by kernel_rfl) (by rfl) (by first | rfl | (simp [Value.cells, Value.oneCell', Gs.cv, Gs.ie]; done)) h_b33 (by first | exact Nat.le_of_ble_eq_true rfl | (simp; done) | omega) (by rfl) (fun w34 N34 _ U34 => ?_)
                    replace own8 := own8.upd1 U34 na_own8_b33
                    replace rd := rd.upd1 U34 na_rd_b33
                    replace rdc := rdc.upd1 U34 na_rdc_b33
                    replace h_b1 := U34.get1 h_b1 ne_b1_b33
                    replace h_b13 := U34.get1 h_b13 ne_b13_b33
                    replace h_b33 := N34
                    replace hF := hF.go1 U34 ge_b33
                    refine opv_run (fieldAt_eq (off := 2) (by kernel_rfl)) ?_
                    refine opv_b (ldC (by kernel_rfl) h_b33 (by rfl)) (fun h35 => ?_) (fun h35 => ?_)
                    · refine gdtf ?_
                      refine gdtf ?_
                      refine gdtf ?_
                      refine pickt ?_
                      refine gdtf ?_
                      refine gdtf ?_
                      refine gdtf ?_
                      refine pickt ?_
                      refine gdtf ?_
                      refine gdtf ?_
                      refine gdtf ?_
                      refine gdun ?_
                      refine gdun ?_
                      refine gdun ?_
                      refine gdtf ?_
                      refine pickt ?_
                      refine gdtf ?_
                      refine gdtf ?_
                      refine gdtf ?_
                      refine gdtf ?_
                      refine gdun ?_
                      refine gdun ?_
                      refine gdun ?_
                      refine gdun ?_
                      refine gdtf ?_
                      refine pickt ?_
                      refine condt ?_
                      first | exact ⟨_, rfl, _, by rw [Gs.write_al (show al = true from by assumption)]; rfl, by rw [Gs.write_al (show al = true from by assumption)]; exact Own.of_block (n := 1) (xs := [_]) (by assumption) (by omega) rfl (by decide), hF⟩ | exact ⟨_, rfl, _, by rw [Gs.write_32 (show al = false from by assumption) (Gs.encP_none (by assumption))]; rfl, by rw [Gs.write_32 (show al = false from by assumption) (Gs.encP_none (by assumption))]; exact Own.nil _ _ _ _, hF⟩ | exact ⟨_, rfl, _, by rw [Gs.write_ok (show al = false from by assumption) henc hfin]; rfl, by rw [Gs.write_ok (show al = false from by assumption) henc hfin]; exact own8, hF⟩ | exact ⟨_, rfl, _, by rw [Gs.write_er (show al = false from by assumption) henc (Gs.items_er hacc hx12 (show _ = Except.error 21 by rw [hpre, Gs.cellsW_21 hcc hx32 (by first | exact Gs.may_st (by assumption) | exact Gs.may_l (by assumption) | exact Gs.may_c (by assumption) | exact Gs.may_b (by assumption) (by assumption) | exact Gs.may_p (by assumption) (by first | assumption | exact Bool.eq_false_iff.2 (by assumption)))]; rfl))]; rfl, by rw [Gs.write_er (show al = false from by assumption) henc (Gs.items_er hacc hx12 (show _ = Except.error 21 by rw [hpre, Gs.cellsW_21 hcc hx32 (by first | exact Gs.may_st (by assumption) | exact Gs.may_l (by assumption) | exact Gs.may_c (by assumption) | exact Gs.may_b (by assumption) (by assumption) | exact Gs.may_p (by assumption) (by first | assumption | exact Bool.eq_false_iff.2 (by assumption)))]; rfl))]; exact Own.nil _ _ _ _, hF⟩ | exact ⟨_, rfl, _, by rw [Gs.write_er (show al = false from by assumption) henc (Gs.items_er hacc hx12 (Gs.itemW_32 (by first | exact .inl (by assumption) | exact .inr (decide_eq_false (by omega))) (Gs.encP_none (by assumption))))]; rfl, by rw [Gs.write_er (show al = false from by assumption) henc (Gs.items_er hacc hx12 (Gs.itemW_32 (by first | exact .inl (by assumption) | exact .inr (decide_eq_false (by omega))) (Gs.encP_none (by assumption))))]; exact Own.nil _ _ _ _, hF⟩
                    · refine gdff ?_
                      refine opv_run (fieldAt_eq (off := 3) (by kernel_rfl)) ?_
                      refine gdff ?_
                      refine opv_run (ldC (by kernel_rfl) h_b33 (by rfl)) ?_
                      refine gdff ?_
                      refine opv_dec (neI _ _ _ _ _) (fun h37 => ?_) (fun h37 => ?_)
                      · refine pickf ?_
                        refine gdtf ?_
                        refine gdtf ?_
                        refine gdtf ?_
                        refine pickt ?_
                        refine gdtf ?_
                        refine gdtf ?_
                        refine gdtf ?_
                        refine gdun ?_
                        refine gdun ?_
                        refine gdun ?_
                        refine gdtf ?_
                        refine pickt ?_
                        refine gdtf ?_
                        refine gdtf ?_
                        refine gdtf ?_
                        refine gdtf ?_
                        refine gdun ?_
                        refine gdun ?_
                        refine gdun ?_
                        refine gdun ?_
                        refine gdtf ?_
                        refine pickt ?_
                        refine condt ?_
                        first | exact ⟨_, rfl, _, by rw [Gs.write_al (show al = true from by assumption)]; rfl, by rw [Gs.write_al (show al = true from by assumption)]; exact Own.of_block (n := 1) (xs := [_]) (by assumption) (by omega) rfl (by decide), hF⟩ | exact ⟨_, rfl, _, by rw [Gs.write_32 (show al = false from by assumption) (Gs.encP_none (by assumption))]; rfl, by rw [Gs.write_32 (show al = false from by assumption) (Gs.encP_none (by assumption))]; exact Own.nil _ _ _ _, hF⟩ | exact ⟨_, rfl, _, by rw [Gs.write_ok (show al = false from by assumption) henc hfin]; rfl, by rw [Gs.write_ok (show al = false from by assumption) henc hfin]; exact own8, hF⟩ | exact ⟨_, rfl, _, by rw [Gs.write_er (show al = false from by assumption) henc (Gs.items_er hacc hx12 (show _ = Except.error 21 by rw [hpre, Gs.cellsW_21 hcc hx32 (by first | exact Gs.may_st (by assumption) | exact Gs.may_l (by assumption) | exact Gs.may_c (by assumption) | exact Gs.may_b (by assumption) (by assumption) | exact Gs.may_p (by assumption) (by first | assumption | exact Bool.eq_false_iff.2 (by assumption)))]; rfl))]; rfl, by rw [Gs.write_er (show al = false from by assumption) henc (Gs.items_er hacc hx12 (show _ = Except.error 21 by rw [hpre, Gs.cellsW_21 hcc hx32 (by first | exact Gs.may_st (by assumption) | exact Gs.may_l (by assumption) | exact Gs.may_c (by assumption) | exact Gs.may_b (by assumption) (by assumption) | exact Gs.may_p (by assumption) (by first | assumption | exact Bool.eq_false_iff.2 (by assumption)))]; rfl))]; exact Own.nil _ _ _ _, hF⟩ | exact ⟨_, rfl, _, by rw [Gs.write_er (show al = false from by assumption) henc (Gs.items_er hacc hx12 (Gs.itemW_32 (by first | exact .inl (by assumption) | exact .inr (decide_eq_false (by omega))) (Gs.encP_none (by assumption))))]; rfl, by rw [Gs.write_er (show al = false from by assumption) henc (Gs.items_er hacc hx12 (Gs.itemW_32 (by first | exact .inl (by assumption) | exact .inr (decide_eq_false (by omega))) (Gs.encP_none (by assumption))))]; exact Own.nil _ _ _ _, hF⟩
                      · refine pickf ?_
                        refine gdff ?_
                        refine opv_run (fieldAt_eq (off := 4) (by kernel_rfl)) ?_
                        refine gdff ?_
                        refine opv_run (ldC (by kernel_rfl) h_b33 (by rfl)) ?_
                        refine gdff ?_
                        refine opv_dec (neI _ _ _ _ _) (fun h39 => ?_) (fun h39 => ?_)
                        · refine pickf ?_
                          refine gdtf ?_
                          refine gdtf ?_
                          refine gdtf ?_
                          refine gdun ?_
                          refine gdun ?_
                          refine gdun ?_
                          refine gdtf ?_
                          refine pickt ?_
                          refine gdtf ?_
                          refine gdtf ?_
                          refine gdtf ?_
                          refine gdtf ?_
                          refine gdun ?_
                          refine gdun ?_
                          refine gdun ?_
                          refine gdun ?_
                          refine gdtf ?_
                          refine pickt ?_
                          refine condt ?_
                          first | exact ⟨_, rfl, _, by rw [Gs.write_al (show al = true from by assumption)]; rfl, by rw [Gs.write_al (show al = true from by assumption)]; exact Own.of_block (n := 1) (xs := [_]) (by assumption) (by omega) rfl (by decide), hF⟩ | exact ⟨_, rfl, _, by rw [Gs.write_32 (show al = false from by assumption) (Gs.encP_none (by assumption))]; rfl, by rw [Gs.write_32 (show al = false from by assumption) (Gs.encP_none (by assumption))]; exact Own.nil _ _ _ _, hF⟩ | exact ⟨_, rfl, _, by rw [Gs.write_ok (show al = false from by assumption) henc hfin]; rfl, by rw [Gs.write_ok (show al = false from by assumption) henc hfin]; exact own8, hF⟩ | exact ⟨_, rfl, _, by rw [Gs.write_er (show al = false from by assumption) henc (Gs.items_er hacc hx12 (show _ = Except.error 21 by rw [hpre, Gs.cellsW_21 hcc hx32 (by first | exact Gs.may_st (by assumption) | exact Gs.may_l (by assumption) | exact Gs.may_c (by assumption) | exact Gs.may_b (by assumption) (by assumption) | exact Gs.may_p (by assumption) (by first | assumption | exact Bool.eq_false_iff.2 (by assumption)))]; rfl))]; rfl, by rw [Gs.write_er (show al = false from by assumption) henc (Gs.items_er hacc hx12 (show _ = Except.error 21 by rw [hpre, Gs.cellsW_21 hcc hx32 (by first | exact Gs.may_st (by assumption) | exact Gs.may_l (by assumption) | exact Gs.may_c (by assumption) | exact Gs.may_b (by assumption) (by assumption) | exact Gs.may_p (by assumption) (by first | assumption | exact Bool.eq_false_iff.2 (by assumption)))]; rfl))]; exact Own.nil _ _ _ _, hF⟩ | exact ⟨_, rfl, _, by rw [Gs.write_er (show al = false from by assumption) henc (Gs.items_er hacc hx12 (Gs.itemW_32 (by first | exact .inl (by assumption) | exact .inr (decide_eq_false (by omega))) (Gs.encP_none (by assumption))))]; rfl, by rw [Gs.write_er (show al = false from by assumption) henc (Gs.items_er hacc hx12 (Gs.itemW_32 (by first | exact .inl (by assumption) | exact .inr (decide_eq_false (by omega))) (Gs.encP_none (by assumption))))]; exact Own.nil _ _ _ _, hF⟩
                        · refine pickf ?_
                          refine gdff ?_
                          refine opv_run (fieldAt_eq (off := 1) (by kernel_rfl)) ?_
                          refine gdff ?_
                          refine opv_b (ldC (by kernel_rfl) h_b33 (by rfl)) (fun h41 => ?_) (fun h41 => ?_)
                          · refine gdff ?_
                            refine gdtt ?_
                            refine opv_run (fieldAt_eq (off := 0) (by kernel_rfl)) ?_
                            refine gdtt ?_
                            refine opv_run (ldC (by kernel_rfl) h_b33 (by rfl)) ?_
                            refine gdtt ?_
                            refine opv_dec (lss _ _ _ _) (fun h42 => ?_) (fun h42 => ?_)
                            · refine gdff ?_
                              refine pickt ?_
                              refine pickf ?_
                              refine gdtf ?_
                              refine gdtf ?_
                              refine gdtf ?_
                              refine gdtf ?_
                              refine gdun ?_
                              refine gdun ?_
                              refine gdun ?_
                              refine gdun ?_
                              refine gdtf ?_
                              refine pickt ?_
                              refine condt ?_
                              first | exact ⟨_, rfl, _, by rw [Gs.write_al (show al = true from by assumption)]; rfl, by rw [Gs.write_al (show al = true from by assumption)]; exact Own.of_block (n := 1) (xs := [_]) (by assumption) (by omega) rfl (by decide), hF⟩ | exact ⟨_, rfl, _, by rw [Gs.write_32 (show al = false from by assumption) (Gs.encP_none (by assumption))]; rfl, by rw [Gs.write_32 (show al = false from by assumption) (Gs.encP_none (by assumption))]; exact Own.nil _ _ _ _, hF⟩ | exact ⟨_, rfl, _, by rw [Gs.write_ok (show al = false from by assumption) henc hfin]; rfl, by rw [Gs.write_ok (show al = false from by assumption) henc hfin]; exact own8, hF⟩ | exact ⟨_, rfl, _, by rw [Gs.write_er (show al = false from by assumption) henc (Gs.items_er hacc hx12 (show _ = Except.error 21 by rw [hpre, Gs.cellsW_21 hcc hx32 (by first | exact Gs.may_st (by assumption) | exact Gs.may_l (by assumption) | exact Gs.may_c (by assumption) | exact Gs.may_b (by assumption) (by assumption) | exact Gs.may_p (by assumption) (by first | assumption | exact Bool.eq_false_iff.2 (by assumption)))]; rfl))]; rfl, by rw [Gs.write_er (show al = false from by assumption) henc (Gs.items_er hacc hx12 (show _ = Except.error 21 by rw [hpre, Gs.cellsW_21 hcc hx32 (by first | exact Gs.may_st (by assumption) | exact Gs.may_l (by assumption) | exact Gs.may_c (by assumption) | exact Gs.may_b (by assumption) (by assumption) | exact Gs.may_p (by assumption) (by first | assumption | exact Bool.eq_false_iff.2 (by assumption)))]; rfl))]; exact Own.nil _ _ _ _, hF⟩ | exact ⟨_, rfl, _, by rw [Gs.write_er (show al = false from by assumption) henc (Gs.items_er hacc hx12 (Gs.itemW_32 (by first | exact .inl (by assumption) | exact .inr (decide_eq_false (by omega))) (Gs.encP_none (by assumption))))]; rfl, by rw [Gs.write_er (show al = false from by assumption) henc (Gs.items_er hacc hx12 (Gs.itemW_32 (by first | exact .inl (by assumption) | exact .inr (decide_eq_false (by omega))) (Gs.encP_none (by assumption))))]; exact Own.nil _ _ _ _, hF⟩
                            · refine gdff ?_
                              refine pickt ?_
                              refine pickf ?_
                              refine gdff ?_
                              refine opv_run (fieldAt_eq (off := 1) (by kernel_rfl)) ?_
                              refine gdff ?_
                              refine opv_b (ldC (by kernel_rfl) h_b33 (by rfl)) (fun h44 => ?_) (fun h44 => ?_)
                              · refine gdff ?_
                                refine opv_run (notT) ?_
                                refine gdff ?_
                                refine gdft ?_
                                refine gdft ?_
                                refine gdft ?_
                                refine gdft ?_
                                refine gdff ?_
                                refine pickf ?_
                                refine pickf ?_
                                refine condf ?_
                                refine join_cut (fun g w' => ∃ (v8 : Value), (g 8 = v8) ∧ (Own w.heap.size w' 5 1 v8 (vals .u8 ((aid :: (Gs.encP cur tot).1 :: (Gs.encP cur tot).2.1 :: acc) ++ pre ++ cacc ++ (if (x32).ge = true then [8] else [])))) ∧ (w'.heap[b1]? = some (.cells #[.int .u8 aid, .bool al, .int .i64 cur, .slice A n cp] 32 (0, 0))) ∧ (w'.heap[b13]? = some (.cells (Gs.ie x12).toArray 65 (0, 0))) ∧ (Rd w' A (rows Gs.ie l)) ∧ (Gs.Cl w' l) ∧ (w'.heap[b33]? = some (.cells (Gs.cv x32).toArray 59 (0, 0))) ∧ (Upd no w w')) (fun J6 hJ6 => ?_) (fun gJ6 wJ6 hI => ?_)
                                · refine opv_run (fieldAt_eq (off := 1) (by kernel_rfl)) ?_
                                  refine opv_b (ldC (by kernel_rfl) h_b33 (by rfl)) (fun h45 => ?_) (fun h45 => ?_)
                                  · refine condt ?_
                                    refine buildSlice_intro (e := 5) (m := 1) (z := #[.int .u8 0]) (by kernel_rfl) (by kernel_rfl) (by rfl) (by decide) (by first | (simp [fillL, splice, repL, Value.cells, Gs.cv, Gs.ie]; done) | (simp [fillL, splice, repL, Value.cells, Gs.cv, Gs.ie]; rfl)) (fun b46 w46 e46 h_b46 _ U46 => ?_)
                                    have na_own8_b46 := own8.apart e46
                                    have ne_b1_b46 : b1 ≠ b46 := by have := lt_get h_b1; omega
                                    have ne_b13_b46 : b13 ≠ b46 := by have := lt_get h_b13; omega
                                    have na_rd_b46 := rd.apart e46
                                    have na_rdc_b46 := rdc.apart e46
                                    have ne_b33_b46 : b33 ≠ b46 := by have := lt_get h_b33; omega
                                    have ge_b46 : w.heap.size ≤ b46 := by have := hF.size; omega
                                    replace own8 := own8.upd0 U46
                                    replace rd := rd.upd0 U46
                                    replace rdc := rdc.upd0 U46
                                    replace h_b1 := U46.get0 h_b1
                                    replace h_b13 := U46.get0 h_b13
                                    replace h_b33 := U46.get0 h_b33
                                    replace hF := hF.go0 U46
                                    clear e46
                                    refine app_intro (e := 5) (size := 1) (bytes := 1) (by kernel_rfl) own8 (Rd.of_blockL h_b46) rfl (by first | (simp [Value.oneCell']; done) | (intro u hu; simp only [List.mem_singleton] at hu; subst hu; rfl) | (simp; intros; subst_vars; rfl)) (by simp only [vals_length, List.length_take, List.length_cons, List.length_nil, List.length_append, List.length_map, List.length_range]; omega) (by have := hF.size; omega) (fun v47 w47 N47 U47 => ?_)
                                    have own8_o := own8
                                    replace own8 := N47
                                    replace h_b1 := U47.get h_b1 (fun h => by first | (have := Own.ge own8_o h; omega) | exact Own.ne_blk own8_o h_b1 (by decide) _ h rfl | exact Own.not_loop own8_o h_b1 (by assumption) _ h rfl | exact Own.not_def own8_o h_b1 _ h rfl | simp_all)
                                    replace h_b13 := U47.get h_b13 (fun h => by first | (have := Own.ge own8_o h; omega) | exact Own.ne_blk own8_o h_b13 (by decide) _ h rfl | exact Own.not_loop own8_o h_b13 (by assumption) _ h rfl | exact Own.not_def own8_o h_b13 _ h rfl | simp_all)
                                    replace rd := rd.updS U47 (lt_rd.imp_right fun h k hk hs => by have := h k hk; have := (Own.ge own8_o hs).1; omega)
                                    replace rdc := rdc.updS U47 (lt_rdc.imp_right fun h k hk hs => by have := h k hk; have := (Own.ge own8_o hs).1; omega)
                                    replace h_b33 := U47.get h_b33 (fun h => na_own8_b33 _ h rfl)
                                    replace h_b46 := U47.get h_b46 (fun h => na_own8_b46 _ h rfl)
                                    replace hF := hF.go U47 (fun i h hs => by first | exact hs | exact .inl hs | exact .inr hs | (have := (Own.ge own8_o hs).1; omega))
                                    clear own8_o
                                    refine hJ6 _ _ ?_
                                    exact ⟨_, (by first | exact g8 | rfl), (by first | (rw [if_pos (by assumption)]; exact own_snoc own8) | (rw [if_neg (by rw [show (x32).ge = false from by assumption]; decide), List.append_nil]; exact own8)), h_b1, h_b13, rd, rdc, h_b33, hF⟩
                                  · refine condf ?_
                                    refine hJ6 _ _ ?_
                                    exact ⟨_, (by first | exact g8 | rfl), (by first | (rw [if_pos (by assumption)]; exact own_snoc own8) | (rw [if_neg (by rw [show (x32).ge = false from by assumption]; decide), List.append_nil]; exact own8)), h_b1, h_b13, rd, rdc, h_b33, hF⟩
                                · obtain ⟨v8, g8, own8, h_b1, h_b13, rd, rdc, h_b33, hF⟩ := hI
                                  try rw [g8]
                                  have hil : (if (x32).ge = true then [8] else ([] : List Int)).length ≤ 1 := by split <;> simp
                                  refine opv_run (fieldAt_eq (off := 0) (by kernel_rfl)) ?_
                                  refine opv_run (ldC (by kernel_rfl) h_b33 (by rfl)) ?_
                                  refine buildSlice_intro (e := 5) (m := 1) (z := #[.int .u8 0]) (by kernel_rfl) (by kernel_rfl) (by rfl) (by decide) (by first | (simp [fillL, splice, repL, Value.cells, Gs.cv, Gs.ie]; done) | (simp [fillL, splice, repL, Value.cells, Gs.cv, Gs.ie]; rfl)) (fun b48 w48 e48 h_b48 _ U48 => ?_)
                                  have na_own8_b48 := own8.apart e48
                                  have ne_b1_b48 : b1 ≠ b48 := by have := lt_get h_b1; omega
                                  have ne_b13_b48 : b13 ≠ b48 := by have := lt_get h_b13; omega
                                  have na_rd_b48 := rd.apart e48
                                  have na_rdc_b48 := rdc.apart e48
                                  have ne_b33_b48 : b33 ≠ b48 := by have := lt_get h_b33; omega
                                  have ge_b48 : w.heap.size ≤ b48 := by have := hF.size; omega
                                  replace own8 := own8.upd0 U48
                                  replace rd := rd.upd0 U48
                                  replace rdc := rdc.upd0 U48
                                  replace h_b1 := U48.get0 h_b1
                                  replace h_b13 := U48.get0 h_b13
                                  replace h_b33 := U48.get0 h_b33
                                  replace hF := hF.go0 U48
                                  clear e48
                                  refine app_intro (e := 5) (size := 1) (bytes := 1) (by kernel_rfl) own8 (Rd.of_blockL h_b48) rfl (by first | (simp [Value.oneCell']; done) | (intro u hu; simp only [List.mem_singleton] at hu; subst hu; rfl) | (simp; intros; subst_vars; rfl)) (by simp only [vals_length, List.length_take, List.length_cons, List.length_nil, List.length_append, List.length_map, List.length_range]; omega) (by have := hF.size; omega) (fun v49 w49 N49 U49 => ?_)
                                  have own8_o := own8
                                  replace own8 := N49
                                  replace h_b1 := U49.get h_b1 (fun h => by first | (have := Own.ge own8_o h; omega) | exact Own.ne_blk own8_o h_b1 (by decide) _ h rfl | exact Own.not_loop own8_o h_b1 (by assumption) _ h rfl | exact Own.not_def own8_o h_b1 _ h rfl | simp_all)
                                  replace h_b13 := U49.get h_b13 (fun h => by first | (have := Own.ge own8_o h; omega) | exact Own.ne_blk own8_o h_b13 (by decide) _ h rfl | exact Own.not_loop own8_o h_b13 (by assumption) _ h rfl | exact Own.not_def own8_o h_b13 _ h rfl | simp_all)
                                  replace rd := rd.updS U49 (lt_rd.imp_right fun h k hk hs => by have := h k hk; have := (Own.ge own8_o hs).1; omega)
                                  replace rdc := rdc.updS U49 (lt_rdc.imp_right fun h k hk hs => by have := h k hk; have := (Own.ge own8_o hs).1; omega)
                                  replace h_b33 := U49.get h_b33 (fun h => by first | (have := Own.ge own8_o h; omega) | exact Own.ne_blk own8_o h_b33 (by decide) _ h rfl | exact Own.not_loop own8_o h_b33 (by assumption) _ h rfl | exact Own.not_def own8_o h_b33 _ h rfl | simp_all)
                                  replace h_b48 := U49.get h_b48 (fun h => na_own8_b48 _ h rfl)
                                  replace hF := hF.go U49 (fun i h hs => by first | exact hs | exact .inl hs | exact .inr hs | (have := (Own.ge own8_o hs).1; omega))
                                  clear own8_o
                                  first | refine opv_run (add_i64 _ (by omega)) ?_ | refine opv_run (addI _ _ _ _) ?_
                                  exact ⟨⟨m + 1, _, cacc ++ Gs.cellW x32, rfl, (by omega), (by first | exact g8 | rfl), (Gs.cellsW_step hcc hx32 (by first | exact Gs.may_y1 (by assumption) (by first | assumption | exact Classical.not_not.1 (by assumption)) (by first | assumption | exact Classical.not_not.1 (by assumption)) (by assumption) (by assumption) | exact Gs.may_y2 (by assumption) (by first | assumption | exact Classical.not_not.1 (by assumption)) (by first | assumption | exact Classical.not_not.1 (by assumption)) (by assumption) (by assumption) | exact absurd (show (x32).ge = true by assumption) (by rw [show (x32).ge = false by assumption]; decide))), (by have := Gs.cellW_len x32; simp only [List.length_append]; omega), (Gs.own_cellW (pre := (aid :: (Gs.encP cur tot).1 :: (Gs.encP cur tot).2.1 :: acc) ++ pre) own8), h_b1, h_b13, rd, rdc, hF⟩, cnt_lt (by first | rfl | exact g13) rfl (by omega)⟩
                              · refine gdff ?_
                                refine opv_run (notF) ?_
                                refine gdff ?_
                                refine gdtt ?_
                                refine opv_run (fieldAt_eq (off := 0) (by kernel_rfl)) ?_
                                refine gdtt ?_
                                refine opv_run (ldC (by kernel_rfl) h_b33 (by rfl)) ?_
                                refine gdtt ?_
                                refine callF_bool (c_ref12_Plain) (fun w50 U50 h50 => ?_) (fun w50 U50 h50 => ?_)
                                · replace own8 := own8.upd0 U50
                                  replace rd := rd.upd0 U50
                                  replace rdc := rdc.upd0 U50
                                  replace h_b1 := U50.get0 h_b1
                                  replace h_b13 := U50.get0 h_b13
                                  replace h_b33 := U50.get0 h_b33
                                  replace hF := hF.go0 U50
                                  try simp only [decide_eq_true_eq, decide_eq_false_iff_not] at h50
                                  refine gdtt ?_
                                  refine opv_run (notT) ?_
                                  refine gdff ?_
                                  refine pickt ?_
                                  refine pickf ?_
                                  refine condf ?_
                                  refine join_cut (fun g w' => ∃ (v8 : Value), (g 8 = v8) ∧ (Own w.heap.size w' 5 1 v8 (vals .u8 ((aid :: (Gs.encP cur tot).1 :: (Gs.encP cur tot).2.1 :: acc) ++ pre ++ cacc ++ (if (x32).ge = true then [8] else [])))) ∧ (w'.heap[b1]? = some (.cells #[.int .u8 aid, .bool al, .int .i64 cur, .slice A n cp] 32 (0, 0))) ∧ (w'.heap[b13]? = some (.cells (Gs.ie x12).toArray 65 (0, 0))) ∧ (Rd w' A (rows Gs.ie l)) ∧ (Gs.Cl w' l) ∧ (w'.heap[b33]? = some (.cells (Gs.cv x32).toArray 59 (0, 0))) ∧ (Upd no w w')) (fun J7 hJ7 => ?_) (fun gJ7 wJ7 hI => ?_)
                                  · refine opv_run (fieldAt_eq (off := 1) (by kernel_rfl)) ?_
                                    refine opv_b (ldC (by kernel_rfl) h_b33 (by rfl)) (fun h51 => ?_) (fun h51 => ?_)
                                    · refine condt ?_
                                      refine buildSlice_intro (e := 5) (m := 1) (z := #[.int .u8 0]) (by kernel_rfl) (by kernel_rfl) (by rfl) (by decide) (by first | (simp [fillL, splice, repL, Value.cells, Gs.cv, Gs.ie]; done) | (simp [fillL, splice, repL, Value.cells, Gs.cv, Gs.ie]; rfl)) (fun b52 w52 e52 h_b52 _ U52 => ?_)
                                      have na_own8_b52 := own8.apart e52
                                      have ne_b1_b52 : b1 ≠ b52 := by have := lt_get h_b1; omega
                                      have ne_b13_b52 : b13 ≠ b52 := by have := lt_get h_b13; omega
                                      have na_rd_b52 := rd.apart e52
                                      have na_rdc_b52 := rdc.apart e52
                                      have ne_b33_b52 : b33 ≠ b52 := by have := lt_get h_b33; omega
                                      have ge_b52 : w.heap.size ≤ b52 := by have := hF.size; omega
                                      replace own8 := own8.upd0 U52
                                      replace rd := rd.upd0 U52
                                      replace rdc := rdc.upd0 U52
                                      replace h_b1 := U52.get0 h_b1
                                      replace h_b13 := U52.get0 h_b13
                                      replace h_b33 := U52.get0 h_b33
                                      replace hF := hF.go0 U52
                                      clear e52
                                      refine app_intro (e := 5) (size := 1) (bytes := 1) (by kernel_rfl) own8 (Rd.of_blockL h_b52) rfl (by first | (simp [Value.oneCell']; done) | (intro u hu; simp only [List.mem_singleton] at hu; subst hu; rfl) | (simp; intros; subst_vars; rfl)) (by simp only [vals_length, List.length_take, List.length_cons, List.length_nil, List.length_append, List.length_map, List.length_range]; omega) (by have := hF.size; omega) (fun v53 w53 N53 U53 => ?_)
                                      have own8_o := own8
                                      replace own8 := N53
                                      replace h_b1 := U53.get h_b1 (fun h => by first | (have := Own.ge own8_o h; omega) | exact Own.ne_blk own8_o h_b1 (by decide) _ h rfl | exact Own.not_loop own8_o h_b1 (by assumption) _ h rfl | exact Own.not_def own8_o h_b1 _ h rfl | simp_all)
                                      replace h_b13 := U53.get h_b13 (fun h => by first | (have := Own.ge own8_o h; omega) | exact Own.ne_blk own8_o h_b13 (by decide) _ h rfl | exact Own.not_loop own8_o h_b13 (by assumption) _ h rfl | exact Own.not_def own8_o h_b13 _ h rfl | simp_all)
                                      replace rd := rd.updS U53 (lt_rd.imp_right fun h k hk hs => by have := h k hk; have := (Own.ge own8_o hs).1; omega)
                                      replace rdc := rdc.updS U53 (lt_rdc.imp_right fun h k hk hs => by have := h k hk; have := (Own.ge own8_o hs).1; omega)
                                      replace h_b33 := U53.get h_b33 (fun h => na_own8_b33 _ h rfl)
                                      replace h_b52 := U53.get h_b52 (fun h => na_own8_b52 _ h rfl)
                                      replace hF := hF.go U53 (fun i h hs => by first | exact hs | exact .inl hs | exact .inr hs | (have := (Own.ge own8_o hs).1; omega))
                                      clear own8_o
                                      refine hJ7 _ _ ?_
                                      exact ⟨_, (by first | exact g8 | rfl), (by first | (rw [if_pos (by assumption)]; exact own_snoc own8) | (rw [if_neg (by rw [show (x32).ge = false from by assumption]; decide), List.append_nil]; exact own8)), h_b1, h_b13, rd, rdc, h_b33, hF⟩
                                    · refine condf ?_
                                      refine hJ7 _ _ ?_
                                      exact ⟨_, (by first | exact g8 | rfl), (by first | (rw [if_pos (by assumption)]; exact own_snoc own8) | (rw [if_neg (by rw [show (x32).ge = false from by assumption]; decide), List.append_nil]; exact own8)), h_b1, h_b13, rd, rdc, h_b33, hF⟩
                                  · obtain ⟨v8, g8, own8, h_b1, h_b13, rd, rdc, h_b33, hF⟩ := hI
                                    try rw [g8]
                                    have hil : (if (x32).ge = true then [8] else ([] : List Int)).length ≤ 1 := by split <;> simp
                                    refine opv_run (fieldAt_eq (off := 0) (by kernel_rfl)) ?_
                                    refine opv_run (ldC (by kernel_rfl) h_b33 (by rfl)) ?_
                                    refine buildSlice_intro (e := 5) (m := 1) (z := #[.int .u8 0]) (by kernel_rfl) (by kernel_rfl) (by rfl) (by decide) (by first | (simp [fillL, splice, repL, Value.cells, Gs.cv, Gs.ie]; done) | (simp [fillL, splice, repL, Value.cells, Gs.cv, Gs.ie]; rfl)) (fun b54 w54 e54 h_b54 _ U54 => ?_)
                                    have na_own8_b54 := own8.apart e54
                                    have ne_b1_b54 : b1 ≠ b54 := by have := lt_get h_b1; omega
                                    have ne_b13_b54 : b13 ≠ b54 := by have := lt_get h_b13; omega
                                    have na_rd_b54 := rd.apart e54
                                    have na_rdc_b54 := rdc.apart e54
                                    have ne_b33_b54 : b33 ≠ b54 := by have := lt_get h_b33; omega
                                    have ge_b54 : w.heap.size ≤ b54 := by have := hF.size; omega
                                    replace own8 := own8.upd0 U54
                                    replace rd := rd.upd0 U54
                                    replace rdc := rdc.upd0 U54
                                    replace h_b1 := U54.get0 h_b1
                                    replace h_b13 := U54.get0 h_b13
                                    replace h_b33 := U54.get0 h_b33
                                    replace hF := hF.go0 U54
                                    clear e54
                                    refine app_intro (e := 5) (size := 1) (bytes := 1) (by kernel_rfl) own8 (Rd.of_blockL h_b54) rfl (by first | (simp [Value.oneCell']; done) | (intro u hu; simp only [List.mem_singleton] at hu; subst hu; rfl) | (simp; intros; subst_vars; rfl)) (by simp only [vals_length, List.length_take, List.length_cons, List.length_nil, List.length_append, List.length_map, List.length_range]; omega) (by have := hF.size; omega) (fun v55 w55 N55 U55 => ?_)
                                    have own8_o := own8
                                    replace own8 := N55
                                    replace h_b1 := U55.get h_b1 (fun h => by first | (have := Own.ge own8_o h; omega) | exact Own.ne_blk own8_o h_b1 (by decide) _ h rfl | exact Own.not_loop own8_o h_b1 (by assumption) _ h rfl | exact Own.not_def own8_o h_b1 _ h rfl | simp_all)
                                    replace h_b13 := U55.get h_b13 (fun h => by first | (have := Own.ge own8_o h; omega) | exact Own.ne_blk own8_o h_b13 (by decide) _ h rfl | exact Own.not_loop own8_o h_b13 (by assumption) _ h rfl | exact Own.not_def own8_o h_b13 _ h rfl | simp_all)
                                    replace rd := rd.updS U55 (lt_rd.imp_right fun h k hk hs => by have := h k hk; have := (Own.ge own8_o hs).1; omega)
                                    replace rdc := rdc.updS U55 (lt_rdc.imp_right fun h k hk hs => by have := h k hk; have := (Own.ge own8_o hs).1; omega)
                                    replace h_b33 := U55.get h_b33 (fun h => by first | (have := Own.ge own8_o h; omega) | exact Own.ne_blk own8_o h_b33 (by decide) _ h rfl | exact Own.not_loop own8_o h_b33 (by assumption) _ h rfl | exact Own.not_def own8_o h_b33 _ h rfl | simp_all)
                                    replace h_b54 := U55.get h_b54 (fun h => na_own8_b54 _ h rfl)
                                    replace hF := hF.go U55 (fun i h hs => by first | exact hs | exact .inl hs | exact .inr hs | (have := (Own.ge own8_o hs).1; omega))
                                    clear own8_o
                                    first | refine opv_run (add_i64 _ (by omega)) ?_ | refine opv_run (addI _ _ _ _) ?_
                                    exact ⟨⟨m + 1, _, cacc ++ Gs.cellW x32, rfl, (by omega), (by first | exact g8 | rfl), (Gs.cellsW_step hcc hx32 (by first | exact Gs.may_y1 (by assumption) (by first | assumption | exact Classical.not_not.1 (by assumption)) (by first | assumption | exact Classical.not_not.1 (by assumption)) (by assumption) (by assumption) | exact Gs.may_y2 (by assumption) (by first | assumption | exact Classical.not_not.1 (by assumption)) (by first | assumption | exact Classical.not_not.1 (by assumption)) (by assumption) (by assumption) | exact absurd (show (x32).ge = true by assumption) (by rw [show (x32).ge = false by assumption]; decide))), (by have := Gs.cellW_len x32; simp only [List.length_append]; omega), (Gs.own_cellW (pre := (aid :: (Gs.encP cur tot).1 :: (Gs.encP cur tot).2.1 :: acc) ++ pre) own8), h_b1, h_b13, rd, rdc, hF⟩, cnt_lt (by first | rfl | exact g13) rfl (by omega)⟩
                                · replace own8 := own8.upd0 U50
                                  replace rd := rd.upd0 U50
                                  replace rdc := rdc.upd0 U50
                                  replace h_b1 := U50.get0 h_b1
                                  replace h_b13 := U50.get0 h_b13
                                  replace h_b33 := U50.get0 h_b33
                                  replace hF := hF.go0 U50
                                  try simp only [decide_eq_true_eq, decide_eq_false_iff_not] at h50
                                  refine gdtt ?_
                                  refine opv_run (notF) ?_
                                  refine gdff ?_
                                  refine pickt ?_
                                  refine pickf ?_
                                  refine condt ?_
                                  first | exact ⟨_, rfl, _, by rw [Gs.write_al (show al = true from by assumption)]; rfl, by rw [Gs.write_al (show al = true from by assumption)]; exact Own.of_block (n := 1) (xs := [_]) (by assumption) (by omega) rfl (by decide), hF⟩ | exact ⟨_, rfl, _, by rw [Gs.write_32 (show al = false from by assumption) (Gs.encP_none (by assumption))]; rfl, by rw [Gs.write_32 (show al = false from by assumption) (Gs.encP_none (by assumption))]; exact Own.nil _ _ _ _, hF⟩ | exact ⟨_, rfl, _, by rw [Gs.write_ok (show al = false from by assumption) henc hfin]; rfl, by rw [Gs.write_ok (show al = false from by assumption) henc hfin]; exact own8, hF⟩ | exact ⟨_, rfl, _, by rw [Gs.write_er (show al = false from by assumption) henc (Gs.items_er hacc hx12 (show _ = Except.error 21 by rw [hpre, Gs.cellsW_21 hcc hx32 (by first | exact Gs.may_st (by assumption) | exact Gs.may_l (by assumption) | exact Gs.may_c (by assumption) | exact Gs.may_b (by assumption) (by assumption) | exact Gs.may_p (by assumption) (by first | assumption | exact Bool.eq_false_iff.2 (by assumption)))]; rfl))]; rfl, by rw [Gs.write_er (show al = false from by assumption) henc (Gs.items_er hacc hx12 (show _ = Except.error 21 by rw [hpre, Gs.cellsW_21 hcc hx32 (by first | exact Gs.may_st (by assumption) | exact Gs.may_l (by assumption) | exact Gs.may_c (by assumption) | exact Gs.may_b (by assumption) (by assumption) | exact Gs.may_p (by assumption) (by first | assumption | exact Bool.eq_false_iff.2 (by assumption)))]; rfl))]; exact Own.nil _ _ _ _, hF⟩ | exact ⟨_, rfl, _, by rw [Gs.write_er (show al = false from by assumption) henc (Gs.items_er hacc hx12 (Gs.itemW_32 (by first | exact .inl (by assumption) | exact .inr (decide_eq_false (by omega))) (Gs.encP_none (by assumption))))]; rfl, by rw [Gs.write_er (show al = false from by assumption) henc (Gs.items_er hacc hx12 (Gs.itemW_32 (by first | exact .inl (by assumption) | exact .inr (decide_eq_false (by omega))) (Gs.encP_none (by assumption))))]; exact Own.nil _ _ _ _, hF⟩
                          · refine gdff ?_
                            refine gdft ?_
                            refine gdft ?_
                            refine gdft ?_
                            refine gdff ?_
                            refine pickf ?_
                            refine pickf ?_
                            refine gdff ?_
                            refine opv_run (fieldAt_eq (off := 1) (by kernel_rfl)) ?_
                            refine gdff ?_
                            refine opv_b (ldC (by kernel_rfl) h_b33 (by rfl)) (fun h57 => ?_) (fun h57 => ?_)
                            · refine gdff ?_
                              refine opv_run (notT) ?_
                              refine gdff ?_
                              refine gdft ?_
                              refine gdft ?_
                              refine gdft ?_
                              refine gdft ?_
                              refine gdff ?_
                              refine pickf ?_
                              refine pickf ?_
                              refine condf ?_
                              refine join_cut (fun g w' => ∃ (v8 : Value), (g 8 = v8) ∧ (Own w.heap.size w' 5 1 v8 (vals .u8 ((aid :: (Gs.encP cur tot).1 :: (Gs.encP cur tot).2.1 :: acc) ++ pre ++ cacc ++ (if (x32).ge = true then [8] else [])))) ∧ (w'.heap[b1]? = some (.cells #[.int .u8 aid, .bool al, .int .i64 cur, .slice A n cp] 32 (0, 0))) ∧ (w'.heap[b13]? = some (.cells (Gs.ie x12).toArray 65 (0, 0))) ∧ (Rd w' A (rows Gs.ie l)) ∧ (Gs.Cl w' l) ∧ (w'.heap[b33]? = some (.cells (Gs.cv x32).toArray 59 (0, 0))) ∧ (Upd no w w')) (fun J8 hJ8 => ?_) (fun gJ8 wJ8 hI => ?_)
                              · refine opv_run (fieldAt_eq (off := 1) (by kernel_rfl)) ?_
                                refine opv_b (ldC (by kernel_rfl) h_b33 (by rfl)) (fun h58 => ?_) (fun h58 => ?_)
                                · refine condt ?_
                                  refine buildSlice_intro (e := 5) (m := 1) (z := #[.int .u8 0]) (by kernel_rfl) (by kernel_rfl) (by rfl) (by decide) (by first | (simp [fillL, splice, repL, Value.cells, Gs.cv, Gs.ie]; done) | (simp [fillL, splice, repL, Value.cells, Gs.cv, Gs.ie]; rfl)) (fun b59 w59 e59 h_b59 _ U59 => ?_)
                                  have na_own8_b59 := own8.apart e59
                                  have ne_b1_b59 : b1 ≠ b59 := by have := lt_get h_b1; omega
                                  have ne_b13_b59 : b13 ≠ b59 := by have := lt_get h_b13; omega
                                  have na_rd_b59 := rd.apart e59
                                  have na_rdc_b59 := rdc.apart e59
                                  have ne_b33_b59 : b33 ≠ b59 := by have := lt_get h_b33; omega
                                  have ge_b59 : w.heap.size ≤ b59 := by have := hF.size; omega
                                  replace own8 := own8.upd0 U59
                                  replace rd := rd.upd0 U59
                                  replace rdc := rdc.upd0 U59
                                  replace h_b1 := U59.get0 h_b1
                                  replace h_b13 := U59.get0 h_b13
                                  replace h_b33 := U59.get0 h_b33
                                  replace hF := hF.go0 U59
                                  clear e59
                                  refine app_intro (e := 5) (size := 1) (bytes := 1) (by kernel_rfl) own8 (Rd.of_blockL h_b59) rfl (by first | (simp [Value.oneCell']; done) | (intro u hu; simp only [List.mem_singleton] at hu; subst hu; rfl) | (simp; intros; subst_vars; rfl)) (by simp only [vals_length, List.length_take, List.length_cons, List.length_nil, List.length_append, List.length_map, List.length_range]; omega) (by have := hF.size; omega) (fun v60 w60 N60 U60 => ?_)
                                  have own8_o := own8
                                  replace own8 := N60
                                  replace h_b1 := U60.get h_b1 (fun h => by first | (have := Own.ge own8_o h; omega) | exact Own.ne_blk own8_o h_b1 (by decide) _ h rfl | exact Own.not_loop own8_o h_b1 (by assumption) _ h rfl | exact Own.not_def own8_o h_b1 _ h rfl | simp_all)
                                  replace h_b13 := U60.get h_b13 (fun h => by first | (have := Own.ge own8_o h; omega) | exact Own.ne_blk own8_o h_b13 (by decide) _ h rfl | exact Own.not_loop own8_o h_b13 (by assumption) _ h rfl | exact Own.not_def own8_o h_b13 _ h rfl | simp_all)
                                  replace rd := rd.updS U60 (lt_rd.imp_right fun h k hk hs => by have := h k hk; have := (Own.ge own8_o hs).1; omega)
                                  replace rdc := rdc.updS U60 (lt_rdc.imp_right fun h k hk hs => by have := h k hk; have := (Own.ge own8_o hs).1; omega)
                                  replace h_b33 := U60.get h_b33 (fun h => na_own8_b33 _ h rfl)
                                  replace h_b59 := U60.get h_b59 (fun h => na_own8_b59 _ h rfl)
                                  replace hF := hF.go U60 (fun i h hs => by first | exact hs | exact .inl hs | exact .inr hs | (have := (Own.ge own8_o hs).1; omega))
                                  clear own8_o
                                  refine hJ8 _ _ ?_
                                  exact ⟨_, (by first | exact g8 | rfl), (by first | (rw [if_pos (by assumption)]; exact own_snoc own8) | (rw [if_neg (by rw [show (x32).ge = false from by assumption]; decide), List.append_nil]; exact own8)), h_b1, h_b13, rd, rdc, h_b33, hF⟩
                                · refine condf ?_
                                  refine hJ8 _ _ ?_
                                  exact ⟨_, (by first | exact g8 | rfl), (by first | (rw [if_pos (by assumption)]; exact own_snoc own8) | (rw [if_neg (by rw [show (x32).ge = false from by assumption]; decide), List.append_nil]; exact own8)), h_b1, h_b13, rd, rdc, h_b33, hF⟩
                              · obtain ⟨v8, g8, own8, h_b1, h_b13, rd, rdc, h_b33, hF⟩ := hI
                                try rw [g8]
                                have hil : (if (x32).ge = true then [8] else ([] : List Int)).length ≤ 1 := by split <;> simp
                                refine opv_run (fieldAt_eq (off := 0) (by kernel_rfl)) ?_
                                refine opv_run (ldC (by kernel_rfl) h_b33 (by rfl)) ?_
                                refine buildSlice_intro (e := 5) (m := 1) (z := #[.int .u8 0]) (by kernel_rfl) (by kernel_rfl) (by rfl) (by decide) (by first | (simp [fillL, splice, repL, Value.cells, Gs.cv, Gs.ie]; done) | (simp [fillL, splice, repL, Value.cells, Gs.cv, Gs.ie]; rfl)) (fun b61 w61 e61 h_b61 _ U61 => ?_)
                                have na_own8_b61 := own8.apart e61
                                have ne_b1_b61 : b1 ≠ b61 := by have := lt_get h_b1; omega
                                have ne_b13_b61 : b13 ≠ b61 := by have := lt_get h_b13; omega
                                have na_rd_b61 := rd.apart e61
                                have na_rdc_b61 := rdc.apart e61
                                have ne_b33_b61 : b33 ≠ b61 := by have := lt_get h_b33; omega
                                have ge_b61 : w.heap.size ≤ b61 := by have := hF.size; omega
                                replace own8 := own8.upd0 U61
                                replace rd := rd.upd0 U61
                                replace rdc := rdc.upd0 U61
                                replace h_b1 := U61.get0 h_b1
                                replace h_b13 := U61.get0 h_b13
                                replace h_b33 := U61.get0 h_b33
                                replace hF := hF.go0 U61
                                clear e61
                                refine app_intro (e := 5) (size := 1) (bytes := 1) (by kernel_rfl) own8 (Rd.of_blockL h_b61) rfl (by first | (simp [Value.oneCell']; done) | (intro u hu; simp only [List.mem_singleton] at hu; subst hu; rfl) | (simp; intros; subst_vars; rfl)) (by simp only [vals_length, List.length_take, List.length_cons, List.length_nil, List.length_append, List.length_map, List.length_range]; omega) (by have := hF.size; omega) (fun v62 w62 N62 U62 => ?_)
                                have own8_o := own8
                                replace own8 := N62
                                replace h_b1 := U62.get h_b1 (fun h => by first | (have := Own.ge own8_o h; omega) | exact Own.ne_blk own8_o h_b1 (by decide) _ h rfl | exact Own.not_loop own8_o h_b1 (by assumption) _ h rfl | exact Own.not_def own8_o h_b1 _ h rfl | simp_all)
                                replace h_b13 := U62.get h_b13 (fun h => by first | (have := Own.ge own8_o h; omega) | exact Own.ne_blk own8_o h_b13 (by decide) _ h rfl | exact Own.not_loop own8_o h_b13 (by assumption) _ h rfl | exact Own.not_def own8_o h_b13 _ h rfl | simp_all)
                                replace rd := rd.updS U62 (lt_rd.imp_right fun h k hk hs => by have := h k hk; have := (Own.ge own8_o hs).1; omega)
                                replace rdc := rdc.updS U62 (lt_rdc.imp_right fun h k hk hs => by have := h k hk; have := (Own.ge own8_o hs).1; omega)
                                replace h_b33 := U62.get h_b33 (fun h => by first | (have := Own.ge own8_o h; omega) | exact Own.ne_blk own8_o h_b33 (by decide) _ h rfl | exact Own.not_loop own8_o h_b33 (by assumption) _ h rfl | exact Own.not_def own8_o h_b33 _ h rfl | simp_all)
                                replace h_b61 := U62.get h_b61 (fun h => na_own8_b61 _ h rfl)
                                replace hF := hF.go U62 (fun i h hs => by first | exact hs | exact .inl hs | exact .inr hs | (have := (Own.ge own8_o hs).1; omega))
                                clear own8_o
                                first | refine opv_run (add_i64 _ (by omega)) ?_ | refine opv_run (addI _ _ _ _) ?_
                                exact ⟨⟨m + 1, _, cacc ++ Gs.cellW x32, rfl, (by omega), (by first | exact g8 | rfl), (Gs.cellsW_step hcc hx32 (by first | exact Gs.may_y1 (by assumption) (by first | assumption | exact Classical.not_not.1 (by assumption)) (by first | assumption | exact Classical.not_not.1 (by assumption)) (by assumption) (by assumption) | exact Gs.may_y2 (by assumption) (by first | assumption | exact Classical.not_not.1 (by assumption)) (by first | assumption | exact Classical.not_not.1 (by assumption)) (by assumption) (by assumption) | exact absurd (show (x32).ge = true by assumption) (by rw [show (x32).ge = false by assumption]; decide))), (by have := Gs.cellW_len x32; simp only [List.length_append]; omega), (Gs.own_cellW (pre := (aid :: (Gs.encP cur tot).1 :: (Gs.encP cur tot).2.1 :: acc) ++ pre) own8), h_b1, h_b13, rd, rdc, hF⟩, cnt_lt (by first | rfl | exact g13) rfl (by omega)⟩
                            · refine gdff ?_
                              refine opv_run (notF) ?_
                              refine gdff ?_
                              refine gdtt ?_
                              refine opv_run (fieldAt_eq (off := 0) (by kernel_rfl)) ?_
                              refine gdtt ?_
                              refine opv_run (ldC (by kernel_rfl) h_b33 (by rfl)) ?_
                              refine gdtt ?_
                              refine callF_bool (c_ref12_Plain) (fun w63 U63 h63 => ?_) (fun w63 U63 h63 => ?_)
                              · replace own8 := own8.upd0 U63
                                replace rd := rd.upd0 U63
                                replace rdc := rdc.upd0 U63
                                replace h_b1 := U63.get0 h_b1
                                replace h_b13 := U63.get0 h_b13
                                replace h_b33 := U63.get0 h_b33
                                replace hF := hF.go0 U63
                                try simp only [decide_eq_true_eq, decide_eq_false_iff_not] at h63
                                refine gdtt ?_
                                refine opv_run (notT) ?_
                                refine gdff ?_
                                refine pickt ?_
                                refine pickf ?_
                                refine condf ?_
                                refine join_cut (fun g w' => ∃ (v8 : Value), (g 8 = v8) ∧ (Own w.heap.size w' 5 1 v8 (vals .u8 ((aid :: (Gs.encP cur tot).1 :: (Gs.encP cur tot).2.1 :: acc) ++ pre ++ cacc ++ (if (x32).ge = true then [8] else [])))) ∧ (w'.heap[b1]? = some (.cells #[.int .u8 aid, .bool al, .int .i64 cur, .slice A n cp] 32 (0, 0))) ∧ (w'.heap[b13]? = some (.cells (Gs.ie x12).toArray 65 (0, 0))) ∧ (Rd w' A (rows Gs.ie l)) ∧ (Gs.Cl w' l) ∧ (w'.heap[b33]? = some (.cells (Gs.cv x32).toArray 59 (0, 0))) ∧ (Upd no w w')) (fun J9 hJ9 => ?_) (fun gJ9 wJ9 hI => ?_)
                                · refine opv_run (fieldAt_eq (off := 1) (by kernel_rfl)) ?_
                                  refine opv_b (ldC (by kernel_rfl) h_b33 (by rfl)) (fun h64 => ?_) (fun h64 => ?_)
                                  · refine condt ?_
                                    refine buildSlice_intro (e := 5) (m := 1) (z := #[.int .u8 0]) (by kernel_rfl) (by kernel_rfl) (by rfl) (by decide) (by first | (simp [fillL, splice, repL, Value.cells, Gs.cv, Gs.ie]; done) | (simp [fillL, splice, repL, Value.cells, Gs.cv, Gs.ie]; rfl)) (fun b65 w65 e65 h_b65 _ U65 => ?_)
                                    have na_own8_b65 := own8.apart e65
                                    have ne_b1_b65 : b1 ≠ b65 := by have := lt_get h_b1; omega
                                    have ne_b13_b65 : b13 ≠ b65 := by have := lt_get h_b13; omega
                                    have na_rd_b65 := rd.apart e65
                                    have na_rdc_b65 := rdc.apart e65
                                    have ne_b33_b65 : b33 ≠ b65 := by have := lt_get h_b33; omega
                                    have ge_b65 : w.heap.size ≤ b65 := by have := hF.size; omega
                                    replace own8 := own8.upd0 U65
                                    replace rd := rd.upd0 U65
                                    replace rdc := rdc.upd0 U65
                                    replace h_b1 := U65.get0 h_b1
                                    replace h_b13 := U65.get0 h_b13
                                    replace h_b33 := U65.get0 h_b33
                                    replace hF := hF.go0 U65
                                    clear e65
                                    refine app_intro (e := 5) (size := 1) (bytes := 1) (by kernel_rfl) own8 (Rd.of_blockL h_b65) rfl (by first | (simp [Value.oneCell']; done) | (intro u hu; simp only [List.mem_singleton] at hu; subst hu; rfl) | (simp; intros; subst_vars; rfl)) (by simp only [vals_length, List.length_take, List.length_cons, List.length_nil, List.length_append, List.length_map, List.length_range]; omega) (by have := hF.size; omega) (fun v66 w66 N66 U66 => ?_)
                                    have own8_o := own8
                                    replace own8 := N66
                                    replace h_b1 := U66.get h_b1 (fun h => by first | (have := Own.ge own8_o h; omega) | exact Own.ne_blk own8_o h_b1 (by decide) _ h rfl | exact Own.not_loop own8_o h_b1 (by assumption) _ h rfl | exact Own.not_def own8_o h_b1 _ h rfl | simp_all)
                                    replace h_b13 := U66.get h_b13 (fun h => by first | (have := Own.ge own8_o h; omega) | exact Own.ne_blk own8_o h_b13 (by decide) _ h rfl | exact Own.not_loop own8_o h_b13 (by assumption) _ h rfl | exact Own.not_def own8_o h_b13 _ h rfl | simp_all)
                                    replace rd := rd.updS U66 (lt_rd.imp_right fun h k hk hs => by have := h k hk; have := (Own.ge own8_o hs).1; omega)
                                    replace rdc := rdc.updS U66 (lt_rdc.imp_right fun h k hk hs => by have := h k hk; have := (Own.ge own8_o hs).1; omega)
                                    replace h_b33 := U66.get h_b33 (fun h => na_own8_b33 _ h rfl)
                                    replace h_b65 := U66.get h_b65 (fun h => na_own8_b65 _ h rfl)
                                    replace hF := hF.go U66 (fun i h hs => by first | exact hs | exact .inl hs | exact .inr hs | (have := (Own.ge own8_o hs).1; omega))
                                    clear own8_o
                                    refine hJ9 _ _ ?_
                                    exact ⟨_, (by first | exact g8 | rfl), (by first | (rw [if_pos (by assumption)]; exact own_snoc own8) | (rw [if_neg (by rw [show (x32).ge = false from by assumption]; decide), List.append_nil]; exact own8)), h_b1, h_b13, rd, rdc, h_b33, hF⟩
                                  · refine condf ?_
                                    refine hJ9 _ _ ?_
                                    exact ⟨_, (by first | exact g8 | rfl), (by first | (rw [if_pos (by assumption)]; exact own_snoc own8) | (rw [if_neg (by rw [show (x32).ge = false from by assumption]; decide), List.append_nil]; exact own8)), h_b1, h_b13, rd, rdc, h_b33, hF⟩
                                · obtain ⟨v8, g8, own8, h_b1, h_b13, rd, rdc, h_b33, hF⟩ := hI
                                  try rw [g8]
                                  have hil : (if (x32).ge = true then [8] else ([] : List Int)).length ≤ 1 := by split <;> simp
                                  refine opv_run (fieldAt_eq (off := 0) (by kernel_rfl)) ?_
                                  refine opv_run (ldC (by kernel_rfl) h_b33 (by rfl)) ?_
                                  refine buildSlice_intro (e := 5) (m := 1) (z := #[.int .u8 0]) (by kernel_rfl) (by kernel_rfl) (by rfl) (by decide) (by first | (simp [fillL, splice, repL, Value.cells, Gs.cv, Gs.ie]; done) | (simp [fillL, splice, repL, Value.cells, Gs.cv, Gs.ie]; rfl)) (fun b67 w67 e67 h_b67 _ U67 => ?_)
                                  have na_own8_b67 := own8.apart e67
                                  have ne_b1_b67 : b1 ≠ b67 := by have := lt_get h_b1; omega
                                  have ne_b13_b67 : b13 ≠ b67 := by have := lt_get h_b13; omega
                                  have na_rd_b67 := rd.apart e67
                                  have na_rdc_b67 := rdc.apart e67
                                  have ne_b33_b67 : b33 ≠ b67 := by have := lt_get h_b33; omega
                                  have ge_b67 : w.heap.size ≤ b67 := by have := hF.size; omega
                                  replace own8 := own8.upd0 U67
                                  replace rd := rd.upd0 U67
                                  replace rdc := rdc.upd0 U67
                                  replace h_b1 := U67.get0 h_b1
                                  replace h_b13 := U67.get0 h_b13
                                  replace h_b33 := U67.get0 h_b33
                                  replace hF := hF.go0 U67
                                  clear e67
                                  refine app_intro (e := 5) (size := 1) (bytes := 1) (by kernel_rfl) own8 (Rd.of_blockL h_b67) rfl (by first | (simp [Value.oneCell']; done) | (intro u hu; simp only [List.mem_singleton] at hu; subst hu; rfl) | (simp; intros; subst_vars; rfl)) (by simp only [vals_length, List.length_take, List.length_cons, List.length_nil, List.length_append, List.length_map, List.length_range]; omega) (by have := hF.size; omega) (fun v68 w68 N68 U68 => ?_)
                                  have own8_o := own8
                                  replace own8 := N68
                                  replace h_b1 := U68.get h_b1 (fun h => by first | (have := Own.ge own8_o h; omega) | exact Own.ne_blk own8_o h_b1 (by decide) _ h rfl | exact Own.not_loop own8_o h_b1 (by assumption) _ h rfl | exact Own.not_def own8_o h_b1 _ h rfl | simp_all)
                                  replace h_b13 := U68.get h_b13 (fun h => by first | (have := Own.ge own8_o h; omega) | exact Own.ne_blk own8_o h_b13 (by decide) _ h rfl | exact Own.not_loop own8_o h_b13 (by assumption) _ h rfl | exact Own.not_def own8_o h_b13 _ h rfl | simp_all)
                                  replace rd := rd.updS U68 (lt_rd.imp_right fun h k hk hs => by have := h k hk; have := (Own.ge own8_o hs).1; omega)
                                  replace rdc := rdc.updS U68 (lt_rdc.imp_right fun h k hk hs => by have := h k hk; have := (Own.ge own8_o hs).1; omega)
                                  replace h_b33 := U68.get h_b33 (fun h => by first | (have := Own.ge own8_o h; omega) | exact Own.ne_blk own8_o h_b33 (by decide) _ h rfl | exact Own.not_loop own8_o h_b33 (by assumption) _ h rfl | exact Own.not_def own8_o h_b33 _ h rfl | simp_all)
                                  replace h_b67 := U68.get h_b67 (fun h => na_own8_b67 _ h rfl)
                                  replace hF := hF.go U68 (fun i h hs => by first | exact hs | exact .inl hs | exact .inr hs | (have := (Own.ge own8_o hs).1; omega))
                                  clear own8_o
                                  first | refine opv_run (add_i64 _ (by omega)) ?_ | refine opv_run (addI _ _ _ _) ?_
                                  exact ⟨⟨m + 1, _, cacc ++ Gs.cellW x32, rfl, (by omega), (by first | exact g8 | rfl), (Gs.cellsW_step hcc hx32 (by first | exact Gs.may_y1 (by assumption) (by first | assumption | exact Classical.not_not.1 (by assumption)) (by first | assumption | exact Classical.not_not.1 (by assumption)) (by assumption) (by assumption) | exact Gs.may_y2 (by assumption) (by first | assumption | exact Classical.not_not.1 (by assumption)) (by first | assumption | exact Classical.not_not.1 (by assumption)) (by assumption) (by assumption) | exact absurd (show (x32).ge = true by assumption) (by rw [show (x32).ge = false by assumption]; decide))), (by have := Gs.cellW_len x32; simp only [List.length_append]; omega), (Gs.own_cellW (pre := (aid :: (Gs.encP cur tot).1 :: (Gs.encP cur tot).2.1 :: acc) ++ pre) own8), h_b1, h_b13, rd, rdc, hF⟩, cnt_lt (by first | rfl | exact g13) rfl (by omega)⟩
                              · replace own8 := own8.upd0 U63
                                replace rd := rd.upd0 U63
                                replace rdc := rdc.upd0 U63
                                replace h_b1 := U63.get0 h_b1
                                replace h_b13 := U63.get0 h_b13
                                replace h_b33 := U63.get0 h_b33
                                replace hF := hF.go0 U63
                                try simp only [decide_eq_true_eq, decide_eq_false_iff_not] at h63
                                refine gdtt ?_
                                refine opv_run (notF) ?_
                                refine gdff ?_
                                refine pickt ?_
                                refine pickf ?_
                                refine condt ?_
                                first | exact ⟨_, rfl, _, by rw [Gs.write_al (show al = true from by assumption)]; rfl, by rw [Gs.write_al (show al = true from by assumption)]; exact Own.of_block (n := 1) (xs := [_]) (by assumption) (by omega) rfl (by decide), hF⟩ | exact ⟨_, rfl, _, by rw [Gs.write_32 (show al = false from by assumption) (Gs.encP_none (by assumption))]; rfl, by rw [Gs.write_32 (show al = false from by assumption) (Gs.encP_none (by assumption))]; exact Own.nil _ _ _ _, hF⟩ | exact ⟨_, rfl, _, by rw [Gs.write_ok (show al = false from by assumption) henc hfin]; rfl, by rw [Gs.write_ok (show al = false from by assumption) henc hfin]; exact own8, hF⟩ | exact ⟨_, rfl, _, by rw [Gs.write_er (show al = false from by assumption) henc (Gs.items_er hacc hx12 (show _ = Except.error 21 by rw [hpre, Gs.cellsW_21 hcc hx32 (by first | exact Gs.may_st (by assumption) | exact Gs.may_l (by assumption) | exact Gs.may_c (by assumption) | exact Gs.may_b (by assumption) (by assumption) | exact Gs.may_p (by assumption) (by first | assumption | exact Bool.eq_false_iff.2 (by assumption)))]; rfl))]; rfl, by rw [Gs.write_er (show al = false from by assumption) henc (Gs.items_er hacc hx12 (show _ = Except.error 21 by rw [hpre, Gs.cellsW_21 hcc hx32 (by first | exact Gs.may_st (by assumption) | exact Gs.may_l (by assumption) | exact Gs.may_c (by assumption) | exact Gs.may_b (by assumption) (by assumption) | exact Gs.may_p (by assumption) (by first | assumption | exact Bool.eq_false_iff.2 (by assumption)))]; rfl))]; exact Own.nil _ _ _ _, hF⟩ | exact ⟨_, rfl, _, by rw [Gs.write_er (show al = false from by assumption) henc (Gs.items_er hacc hx12 (Gs.itemW_32 (by first | exact .inl (by assumption) | exact .inr (decide_eq_false (by omega))) (Gs.encP_none (by assumption))))]; rfl, by rw [Gs.write_er (show al = false from by assumption) henc (Gs.items_er hacc hx12 (Gs.itemW_32 (by first | exact .inl (by assumption) | exact .inr (decide_eq_false (by omega))) (Gs.encP_none (by assumption))))]; exact Own.nil _ _ _ _, hF⟩
                  · refine condf ?_
                    refine hJ3 _ _ ?_
                    exact ⟨_, _, x12, (by first | exact g8 | rfl), hx12, (by rw [hpre, Gs.cellsW_end hcc (by omega)]; rfl), (by simpa only [List.append_assoc, List.cons_append] using own8), h_b1, rd, rdc, hF⟩
            · obtain ⟨v8, m3, xk, g8, hxk, hm3, own8, h_b1, rd, rdc, hF⟩ := hI
              try rw [g8]
              first | refine opv_run (add_i64 _ (by omega)) ?_ | refine opv_run (addI _ _ _ _) ?_
              exact ⟨⟨k + 1, _, _, (by first | exact g9 | rfl), by omega, (by first | exact g8 | rfl), (Gs.items_step hacc hxk hm3), (by have := hcb _ (List.mem_of_getElem? hxk); have h2 := Gs.itemW_len (x := (xk.at', xk.cs)) (f := (decide ((k : Int) = 0))) (n := tot); rw [hm3] at h2; simp only [Gs.okL] at h2; simp only [List.length_append]; omega), own8, h_b1, rd, rdc, hF⟩, cnt_lt (by first | rfl | exact g9) rfl (by omega)⟩
          · refine condf ?_
            refine hJ1 _ _ ?_
            exact ⟨_, _, (by first | exact g8 | rfl), (Gs.items_end hacc (by omega)), own8, hF⟩
      · obtain ⟨v8, acc, g8, hfin, own8, hF⟩ := hI
        try rw [g8]
        first | exact ⟨_, rfl, _, by rw [Gs.write_al (show al = true from by assumption)]; rfl, by rw [Gs.write_al (show al = true from by assumption)]; exact Own.of_block (n := 1) (xs := [_]) (by assumption) (by omega) rfl (by decide), hF⟩ | exact ⟨_, rfl, _, by rw [Gs.write_32 (show al = false from by assumption) (Gs.encP_none (by assumption))]; rfl, by rw [Gs.write_32 (show al = false from by assumption) (Gs.encP_none (by assumption))]; exact Own.nil _ _ _ _, hF⟩ | exact ⟨_, rfl, _, by rw [Gs.write_ok (show al = false from by assumption) henc hfin]; rfl, by rw [Gs.write_ok (show al = false from by assumption) henc hfin]; exact own8, hF⟩ | exact ⟨_, rfl, _, by rw [Gs.write_er (show al = false from by assumption) henc (Gs.items_er hacc hx12 (show _ = Except.error 21 by rw [hpre, Gs.cellsW_21 hcc hx32 (by first | exact Gs.may_st (by assumption) | exact Gs.may_l (by assumption) | exact Gs.may_c (by assumption) | exact Gs.may_b (by assumption) (by assumption) | exact Gs.may_p (by assumption) (by first | assumption | exact Bool.eq_false_iff.2 (by assumption)))]; rfl))]; rfl, by rw [Gs.write_er (show al = false from by assumption) henc (Gs.items_er hacc hx12 (show _ = Except.error 21 by rw [hpre, Gs.cellsW_21 hcc hx32 (by first | exact Gs.may_st (by assumption) | exact Gs.may_l (by assumption) | exact Gs.may_c (by assumption) | exact Gs.may_b (by assumption) (by assumption) | exact Gs.may_p (by assumption) (by first | assumption | exact Bool.eq_false_iff.2 (by assumption)))]; rfl))]; exact Own.nil _ _ _ _, hF⟩ | exact ⟨_, rfl, _, by rw [Gs.write_er (show al = false from by assumption) henc (Gs.items_er hacc hx12 (Gs.itemW_32 (by first | exact .inl (by assumption) | exact .inr (decide_eq_false (by omega))) (Gs.encP_none (by assumption))))]; rfl, by rw [Gs.write_er (show al = false from by assumption) henc (Gs.items_er hacc hx12 (Gs.itemW_32 (by first | exact .inl (by assumption) | exact .inr (decide_eq_false (by omega))) (Gs.encP_none (by assumption))))]; exact Own.nil _ _ _ _, hF⟩

end Go.Proofs.YtkjkmahpkfbbnaaDoor
