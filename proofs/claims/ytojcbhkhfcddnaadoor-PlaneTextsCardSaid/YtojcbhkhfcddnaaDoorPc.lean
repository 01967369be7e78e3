/-
  Contracts of functions of the program, walked over their shallow forms. No condition but the ones that each states.
-/
import Derived.Test.YtojcbhkhfcddnaaDoorPb
namespace Go.Proofs.YtojcbhkhfcddnaaDoor
open Go Go.Sh
set_option linter.unusedVariables false
set_option maxRecDepth 100000


/-- slices.Clone[[]greenscreen/api.Cell,greenscreen/api.Cell] -/
theorem c_slices_Clone {A : Option Addr} {n c : Nat} {cs : List Gs.Cell} {w : World} (rd1 : Rd w A (rows Gs.cv cs)) (hn : n = cs.length) (hp : 0 < n) (hb : n ≤ 4096) :
    Calls Tryd.prog 41 #[.slice A n c] w fun e w' => ∃ v, e = .returned v ∧ ∃ A' c', v = .slice A' n c' ∧ Own w.heap.size w' 36 5 (.slice A' n c') (rows Gs.cv cs) ∧ Upd no w w' := by
  refine F41.calls ?_
  unfold F41
  obtain ⟨a, rfl⟩ := rd1.isSome (by rw [rows_len Gs.encC]; omega)
  subst hn
  have lt_rd1 := Rd.lt rd1
  have hF : Upd no w w := Fr.refl _ _ _
  refine opv_run (v := .bool false) (eqNil (e := 36) (by kernel_rfl)) ?_
  refine condf ?_
  refine buildSlice_intro (e := 36) (m := 5) (z := #[.int .u8 0, .bool false, .bool false, .int .u8 0, .int .u8 0]) (by kernel_rfl) (by kernel_rfl) (by rfl) (by decide) (by first | (simp [fillL, splice, repL, Value.cells]; done) | (simp [fillL, splice, repL, Value.cells]; rfl)) (fun b1 w1 e1 h_b1 _ U1 => ?_)
  have na_rd1_b1 := rd1.apart e1
  have ge_b1 : w.heap.size ≤ b1 := by have := hF.size; omega
  replace rd1 := rd1.upd0 U1
  replace hF := hF.go0 U1
  clear e1
  have own_b1 := Own.of_block (n := 0) (xs := rows Gs.cv []) (size := 5) h_b1 ge_b1 rfl (by decide)
  refine app_introA (e := 36) (size := 5) (bytes := 5) (by kernel_rfl) own_b1 rd1 (by first | exact rows_len Gs.encC _ | (rw [rows_len Gs.encC]; omega)) (rows_one Gs.encC _) (by rw [rows_len Gs.encC, rows_len Gs.encC]; simp only [List.length_nil]; omega) (by have := hF.size; omega) (fun v2 w2 N2 hA2 U2 => ?_)
  have own_b1_o := own_b1
  have nb2_rd1 := ap_rd (S' := w1) (na_rd1_b1.imp_right fun h k hk hs => by cases hs; exact h _ hk rfl) rd1 hA2
  replace rd1 := rd1.updS U2 (na_rd1_b1.imp_right fun h k hk hs => by cases hs; exact h _ hk rfl)
  replace own_b1 := N2
  replace hF := hF.go U2 (fun i h hs => by first | exact hs | exact .inl hs | exact .inr hs | (have := (Own.ge own_b1_o hs).1; omega))
  clear own_b1_o
  rw [rows_append] at own_b1
  try simp only [List.nil_append] at own_b1
  obtain ⟨A2, c2, rfl⟩ := Own.open Gs.encC own_b1
  exact ⟨_, rfl, _, _, rfl, by assumption, hF⟩

/-- slices.Equal[[]greenscreen/api.Cell,greenscreen/api.Cell] -/
theorem c_slices_Equal {cs ds : List Gs.Cell} {A B : Option Addr} {n1 n2 c1 c2 : Nat} {w : World} (rd1 : Rd w A (rows Gs.cv cs)) (hn1 : n1 = cs.length) (rd2 : Rd w B (rows Gs.cv ds)) (hn2 : n2 = ds.length) (hb : n1 ≤ 100000) :
    Calls Tryd.prog 42 #[.slice A n1 c1, .slice B n2 c2] w fun e w' => e = .returned (.bool (decide (cs = ds))) ∧ Upd no w w' := by
  refine F42.calls ?_
  unfold F42
  have lt_rd1 := Rd.lt rd1
  have lt_rd2 := Rd.lt rd2
  have hF : Upd no w w := Fr.refl _ _ _
  refine opv_run (len_sl (by kernel_rfl) _ _ _) ?_
  refine opv_run (len_sl (by kernel_rfl) _ _ _) ?_
  refine opv_dec (neI _ _ _ _ _) (fun h1 => ?_) (fun h1 => ?_)
  · refine condt ?_
    first | exact ⟨retT (by assumption), hF⟩ | exact ⟨retF (fun he => by subst he; omega), hF⟩ | exact ⟨retF (fun he => by subst he; have := Option.some.inj (hx?.symm.trans hx?); exact absurd this (by assumption)), hF⟩
  · refine condf ?_
    refine join_cut (fun g w' => (cs = ds) ∧ (Upd no w w')) (fun J1 hJ1 => ?_) (fun gJ1 wJ1 hI => ?_)
    · refine opv_run (len_sl (by kernel_rfl) _ _ _) ?_
      refine loop_intro (fun g w' => ∃ (k : Nat), (g 13 = .int .i64 (k : Int)) ∧ (k ≤ cs.length) ∧ (cs.take k = ds.take k) ∧ (Rd w' A (rows Gs.cv cs)) ∧ (Rd w' B (rows Gs.cv ds)) ∧ (Upd no w w')) (fun g w' => cs.length - (RowKit.intOf (g 13)).toNat) ?_ (fun g2 wl2 hI => ?_)
      · exact ⟨0, (by first | exact g13 | rfl), Nat.zero_le _, rfl, rd1, rd2, hF⟩
      · obtain ⟨k, g13, hk, hall, rd1, rd2, hF⟩ := hI
        try rw [g13]
        refine opv_dec (lss _ _ _ _) (fun h3 => ?_) (fun h3 => ?_)
        · refine condt ?_
          refine drawn_S (S := no) (fun w4 U4 => ?_)
          replace rd1 := rd1.upd0 U4
          replace rd2 := rd2.upd0 U4
          replace hF := hF.go0 U4
          refine qidx Gs.encC (by kernel_rfl) (by kernel_rfl) (fun w' hw' => rd1.upd0 hw') (Fr.refl _ _ _) (by first | rfl | assumption | omega) (by omega) (by omega) (fun x5 hx5 => ?_)
          try simp only [Int.toNat_natCast] at hx5
          refine qidx Gs.encC (by kernel_rfl) (by kernel_rfl) (fun w' hw' => rd2.upd0 hw') (Fr.refl _ _ _) (by first | rfl | assumption | omega) (by omega) (by omega) (fun x6 hx6 => ?_)
          try simp only [Int.toNat_natCast] at hx6
          refine qop_dec (fun w' hw' => (ne_Cell _)) (fun h7 => ?_) (fun h7 => ?_)
          · refine ext_intro (fun w8 U8 => ?_)
            replace rd1 := rd1.upd0 U8
            replace rd2 := rd2.upd0 U8
            replace hF := hF.go0 U8
            refine condt ?_
            first | exact ⟨retT (by assumption), hF⟩ | exact ⟨retF (fun he => by subst he; omega), hF⟩ | exact ⟨retF (fun he => by subst he; have := Option.some.inj (hx5.symm.trans hx6); exact absurd this (by assumption)), hF⟩
          · refine ext_intro (fun w10 U10 => ?_)
            replace rd1 := rd1.upd0 U10
            replace rd2 := rd2.upd0 U10
            replace hF := hF.go0 U10
            refine condf ?_
            first | refine opv_run (add_i64 _ (by omega)) ?_ | refine opv_run (addI _ _ _ _) ?_
            exact ⟨⟨k + 1, (by first | exact g13 | rfl), by omega, (take_same hall hx5 hx6 (by by_cases hq : x5 = x6; exact hq; contradiction)), rd1, rd2, hF⟩, cnt_lt (by first | rfl | exact g13) rfl (by omega)⟩
        · refine condf ?_
          refine hJ1 _ _ ?_
          exact ⟨(take_all hall (by omega) (by omega)), hF⟩
    · obtain ⟨hall, hF⟩ := hI
      first | exact ⟨retT (by assumption), hF⟩ | exact ⟨retF (fun he => by subst he; omega), hF⟩ | exact ⟨retF (fun he => by subst he; have := Option.some.inj (hx5.symm.trans hx6); exact absurd this (by assumption)), hF⟩

/-- slices.Equal[[]rune,rune] -/
theorem c_slices_EqualR {cs ds : List Int} {A B : Option Addr} {n1 n2 c1 c2 : Nat} {w : World} (rd1 : Rd w A (vals .i32 cs)) (hn1 : n1 = cs.length) (rd2 : Rd w B (vals .i32 ds)) (hn2 : n2 = ds.length) (hb : n1 ≤ 100000) :
    Calls Tryd.prog 40 #[.slice A n1 c1, .slice B n2 c2] w fun e w' => e = .returned (.bool (decide (cs = ds))) ∧ Upd no w w' := by
  refine F40.calls ?_
  unfold F40
  have lt_rd1 := Rd.lt rd1
  have lt_rd2 := Rd.lt rd2
  have hF : Upd no w w := Fr.refl _ _ _
  refine opv_run (len_sl (by kernel_rfl) _ _ _) ?_
  refine opv_run (len_sl (by kernel_rfl) _ _ _) ?_
  refine opv_dec (neI _ _ _ _ _) (fun h1 => ?_) (fun h1 => ?_)
  · refine condt ?_
    first | exact ⟨retT (by assumption), hF⟩ | exact ⟨retF (fun he => by subst he; omega), hF⟩ | exact ⟨retF (fun he => by subst he; have := Option.some.inj (hx?.symm.trans hx?); exact absurd this (by assumption)), hF⟩
  · refine condf ?_
    refine join_cut (fun g w' => (cs = ds) ∧ (Upd no w w')) (fun J1 hJ1 => ?_) (fun gJ1 wJ1 hI => ?_)
    · refine opv_run (len_sl (by kernel_rfl) _ _ _) ?_
      refine loop_intro (fun g w' => ∃ (k : Nat), (g 13 = .int .i64 (k : Int)) ∧ (k ≤ cs.length) ∧ (cs.take k = ds.take k) ∧ (Rd w' A (vals .i32 cs)) ∧ (Rd w' B (vals .i32 ds)) ∧ (Upd no w w')) (fun g w' => cs.length - (RowKit.intOf (g 13)).toNat) ?_ (fun g2 wl2 hI => ?_)
      · exact ⟨0, (by first | exact g13 | rfl), Nat.zero_le _, rfl, rd1, rd2, hF⟩
      · obtain ⟨k, g13, hk, hall, rd1, rd2, hF⟩ := hI
        try rw [g13]
        refine opv_dec (lss _ _ _ _) (fun h3 => ?_) (fun h3 => ?_)
        · refine condt ?_
          refine drawn_S (S := no) (fun w4 U4 => ?_)
          replace rd1 := rd1.upd0 U4
          replace rd2 := rd2.upd0 U4
          replace hF := hF.go0 U4
          refine qidx1 (by kernel_rfl) (by kernel_rfl) (fun w' hw' => rd1.upd0 hw') (Fr.refl _ _ _) (by first | rfl | assumption | omega | (simp; done) | (simp [vals_length, *]; done) | (simp [vals_length] at *; omega)) (by omega) (by omega) (fun x5 hx5 => ?_)
          try simp only [Int.toNat_natCast] at hx5
          refine qidx1 (by kernel_rfl) (by kernel_rfl) (fun w' hw' => rd2.upd0 hw') (Fr.refl _ _ _) (by first | rfl | assumption | omega | (simp; done) | (simp [vals_length, *]; done) | (simp [vals_length] at *; omega)) (by omega) (by omega) (fun x6 hx6 => ?_)
          try simp only [Int.toNat_natCast] at hx6
          refine qop_dec (fun w' hw' => (neI _ _ _ _ _)) (fun h7 => ?_) (fun h7 => ?_)
          · refine ext_intro (fun w8 U8 => ?_)
            replace rd1 := rd1.upd0 U8
            replace rd2 := rd2.upd0 U8
            replace hF := hF.go0 U8
            refine condt ?_
            first | exact ⟨retT (by assumption), hF⟩ | exact ⟨retF (fun he => by subst he; omega), hF⟩ | exact ⟨retF (fun he => by subst he; have := Option.some.inj (hx5.symm.trans hx6); exact absurd this (by assumption)), hF⟩
          · refine ext_intro (fun w10 U10 => ?_)
            replace rd1 := rd1.upd0 U10
            replace rd2 := rd2.upd0 U10
            replace hF := hF.go0 U10
            refine condf ?_
            first | refine opv_run (add_i64 _ (by omega)) ?_ | refine opv_run (addI _ _ _ _) ?_
            exact ⟨⟨k + 1, (by first | exact g13 | rfl), by omega, (take_same hall hx5 hx6 (by by_cases hq : x5 = x6; exact hq; contradiction)), rd1, rd2, hF⟩, cnt_lt (by first | rfl | exact g13) rfl (by omega)⟩
        · refine condf ?_
          refine hJ1 _ _ ?_
          exact ⟨(take_all hall (by omega) (by omega)), hF⟩
    · obtain ⟨hall, hF⟩ := hI
      first | exact ⟨retT (by assumption), hF⟩ | exact ⟨retF (fun he => by subst he; omega), hF⟩ | exact ⟨retF (fun he => by subst he; have := Option.some.inj (hx5.symm.trans hx6); exact absurd this (by assumption)), hF⟩

/-- (*greenscreen/plane.Plane).Clone -/
theorem c_Plane_Clone {r c cur : Int} {A : Option Addr} {n cp bp B0 : Nat} {cs : List Gs.Cell} {w : World} (h_bp : w.heap[bp]? = some (.cells #[.int .i64 r, .int .i64 c, .slice A n cp, .int .i64 cur] 66 (0, 0))) (own_p : Own B0 w 36 5 (.slice A n cp) (rows Gs.cv cs)) (hn : n = cs.length) (hp : 0 < n) (hb : n ≤ 4096) :
    Calls Tryd.prog 27 #[.pointer (some ⟨bp, 0, none⟩)] w fun e w' => ∃ v, e = .returned v ∧ ∃ bq A' c', v = .pointer (some ⟨bq, 0, none⟩) ∧ w.heap.size ≤ bq ∧ w'.heap[bq]? = some (.cells #[.int .i64 r, .int .i64 c, .slice A' n c', .int .i64 cur] 66 (0, 0)) ∧ Own w.heap.size w' 36 5 (.slice A' n c') (rows Gs.cv cs) ∧ Upd no w w' := by
  refine F27.calls ?_
  unfold F27
  have lt_h_bp := lt_get h_bp
  have lt_own_p := Own.lt own_p
  have hF : Upd no w w := Fr.refl _ _ _
  refine drawn_S (S := no) (fun w1 U1 => ?_)
  replace own_p := own_p.upd0 U1
  replace h_bp := U1.get0 h_bp
  replace hF := hF.go0 U1
  refine qnilckp ?_
  refine qop_run (fun w' hw' => (fieldAt_eq (off := 0) (by kernel_rfl))) ?_
  refine qop_run (fun w' hw' => by have h_bp := hw'.get0 h_bp; exact (ldA (n := 2) (by kernel_rfl) h_bp (by first | exact Nat.le_of_ble_eq_true rfl | (simp; done) | omega) (by rfl))) ?_
  refine qnilckp ?_
  refine qop_run (fun w' hw' => (fieldAt_eq (off := 2) (by kernel_rfl))) ?_
  refine qop_run (fun w' hw' => by have h_bp := hw'.get0 h_bp; exact (ldC (by kernel_rfl) h_bp (by rfl))) ?_
  refine qnilckp ?_
  refine qop_run (fun w' hw' => (fieldAt_eq (off := 3) (by kernel_rfl))) ?_
  refine qop_run (fun w' hw' => by have h_bp := hw'.get0 h_bp; exact (ldC (by kernel_rfl) h_bp (by rfl))) ?_
  refine ext_intro (fun w2 U2 => ?_)
  replace own_p := own_p.upd0 U2
  replace h_bp := U2.get0 h_bp
  replace hF := hF.go0 U2
  refine lop_i ?_
  refine callF_ex (c_slices_Clone own_p.rdS hn hp hb) (fun v3 w3 D3 => ?_)
  obtain ⟨A11, c11, rfl, own11, U3⟩ := D3
  have nx3_h_bp_own11 : ¬ ownS _ bp := fun h => by have := (Own.ge own11 h).1; have := lt_get h_bp; omega
  have nx3_own_p_own11 : ∀ k, ownS _ k → ¬ ownS _ k := fun k hk hs => by have := (Own.ge own_p hk).2; have := (Own.ge own11 hs).1; omega
  replace own11 := own11.mono (B' := w.heap.size) hF.size
  replace own_p := own_p.upd0 U3
  replace h_bp := U3.get0 h_bp
  replace hF := hF.go0 U3
  refine ⟨U3, ?_⟩
  refine qop_run (fun w' hw' => (build_eq (l := [(0, 2), (2, 1), (3, 1)]) (z := #[.int .i64 0, .int .i64 0, .slice none 0 0, .int .i64 0]) (by kernel_rfl) (by first | (simp [fillL, splice, repL, Value.cells]; done) | (simp [fillL, splice, repL, Value.cells]; rfl)))) ?_
  refine ext_intro (fun w4 U4 => ?_)
  replace own_p := own_p.upd0 U4
  replace own11 := own11.upd0 U4
  replace h_bp := U4.get0 h_bp
  replace hF := hF.go0 U4
  refine lop_i ?_
  refine box_intro (by rfl) (fun b5 w5 e5 h_b5 _ U5 => ?_)
  have ne_bp_b5 : bp ≠ b5 := by have := lt_get h_bp; omega
  have na_own_p_b5 := own_p.apart e5
  have na_own11_b5 := own11.apart e5
  have ge_b5 : w.heap.size ≤ b5 := by have := hF.size; omega
  replace own_p := own_p.upd0 U5
  replace own11 := own11.upd0 U5
  replace h_bp := U5.get0 h_bp
  replace hF := hF.go0 U5
  clear e5
  refine ⟨U5, ?_⟩
  refine ext_intro (fun w6 U6 => ?_)
  replace own_p := own_p.upd0 U6
  replace own11 := own11.upd0 U6
  replace h_bp := U6.get0 h_bp
  replace h_b5 := U6.get0 h_b5
  replace hF := hF.go0 U6
  exact ⟨_, rfl, _, _, _, rfl, by assumption, by assumption, by assumption, hF⟩

/-- greenscreen/plane.Same -/
theorem c_plane_Same {r c cur : Int} {A : Option Addr} {n cp bp B0 : Nat} {cs : List Gs.Cell} {w : World} (h_bp : w.heap[bp]? = some (.cells #[.int .i64 r, .int .i64 c, .slice A n cp, .int .i64 cur] 66 (0, 0))) (own_p : Own B0 w 36 5 (.slice A n cp) (rows Gs.cv cs)) (hn : n = cs.length) {r2 c2 cur2 : Int} {A2 : Option Addr} {n2 cp2 bq B1 : Nat} {ds : List Gs.Cell} (h_bq : w.heap[bq]? = some (.cells #[.int .i64 r2, .int .i64 c2, .slice A2 n2 cp2, .int .i64 cur2] 66 (0, 0))) (own_q : Own B1 w 36 5 (.slice A2 n2 cp2) (rows Gs.cv ds)) (hn2 : n2 = ds.length) (hb : n ≤ 4096) :
    Calls Tryd.prog 28 #[.pointer (some ⟨bp, 0, none⟩), .pointer (some ⟨bq, 0, none⟩)] w fun e w' => e = .returned (.bool (decide ((r = r2 ∧ c = c2) ∧ cur = cur2 ∧ cs = ds))) ∧ Upd no w w' := by
  refine F28.calls ?_
  unfold F28
  have lt_h_bp := lt_get h_bp
  have lt_own_p := Own.lt own_p
  have lt_h_bq := lt_get h_bq
  have lt_own_q := Own.lt own_q
  have hF : Upd no w w := Fr.refl _ _ _
  refine drawn_S (S := no) (fun w1 U1 => ?_)
  replace own_p := own_p.upd0 U1
  replace own_q := own_q.upd0 U1
  replace h_bp := U1.get0 h_bp
  replace h_bq := U1.get0 h_bq
  replace hF := hF.go0 U1
  refine qnilckp ?_
  refine qop_run (fun w' hw' => (fieldAt_eq (off := 0) (by kernel_rfl))) ?_
  refine qop_run (fun w' hw' => by have h_bp := hw'.get0 h_bp; exact (ldA (n := 2) (by kernel_rfl) h_bp (by first | exact Nat.le_of_ble_eq_true rfl | (simp; done) | omega) (by rfl))) ?_
  refine qnilckp ?_
  refine qop_run (fun w' hw' => (fieldAt_eq (off := 0) (by kernel_rfl))) ?_
  refine qop_run (fun w' hw' => by have h_bq := hw'.get0 h_bq; exact (ldA (n := 2) (by kernel_rfl) h_bq (by first | exact Nat.le_of_ble_eq_true rfl | (simp; done) | omega) (by rfl))) ?_
  refine qop_dec (fun w' hw' => (eq_Size _)) (fun h2 => ?_) (fun h2 => ?_)
  · refine qgdtt ?_
    refine qmove ?_
    refine qgdtt ?_
    refine qnilckp ?_
    refine qgdtt ?_
    refine qop_run (fun w' hw' => (fieldAt_eq (off := 3) (by kernel_rfl))) ?_
    refine qgdtt ?_
    refine qop_run (fun w' hw' => by have h_bp := hw'.get0 h_bp; exact (ldC (by kernel_rfl) h_bp (by rfl))) ?_
    refine qgdtt ?_
    refine qmove ?_
    refine qgdtt ?_
    refine qnilckp ?_
    refine qgdtt ?_
    refine qop_run (fun w' hw' => (fieldAt_eq (off := 3) (by kernel_rfl))) ?_
    refine qgdtt ?_
    refine qop_run (fun w' hw' => by have h_bq := hw'.get0 h_bq; exact (ldC (by kernel_rfl) h_bq (by rfl))) ?_
    refine qgdtt ?_
    refine qop_dec (fun w' hw' => (eqI _ _ _ _ _)) (fun h3 => ?_) (fun h3 => ?_)
    · refine qpickt ?_
      refine qgdtt ?_
      refine qmove ?_
      refine qgdtt ?_
      refine qnilckp ?_
      refine qgdtt ?_
      refine qop_run (fun w' hw' => (fieldAt_eq (off := 2) (by kernel_rfl))) ?_
      refine qgdtt ?_
      refine qop_run (fun w' hw' => by have h_bp := hw'.get0 h_bp; exact (ldC (by kernel_rfl) h_bp (by rfl))) ?_
      refine qgdtt ?_
      refine qmove ?_
      refine qgdtt ?_
      refine qnilckp ?_
      refine qgdtt ?_
      refine qop_run (fun w' hw' => (fieldAt_eq (off := 2) (by kernel_rfl))) ?_
      refine qgdtt ?_
      refine qop_run (fun w' hw' => by have h_bq := hw'.get0 h_bq; exact (ldC (by kernel_rfl) h_bq (by rfl))) ?_
      refine qgdtt ?_
      refine qop_call (fun w' hw' => by have own_p := own_p.upd0 hw'; have own_q := own_q.upd0 hw'; exact c_slices_Equal own_p.rdS hn own_q.rdS hn2 (by omega)) ?_
      refine qpickt ?_
      refine ext_intro (fun w5 U5 => ?_)
      replace own_p := own_p.upd0 U5
      replace own_q := own_q.upd0 U5
      replace h_bp := U5.get0 h_bp
      replace h_bq := U5.get0 h_bq
      replace hF := hF.go0 U5
      first | exact ⟨retB ⟨fun hh => ⟨by assumption, by assumption, hh⟩, fun hh => hh.2.2⟩, hF⟩ | exact ⟨retF (fun he => by obtain ⟨h1, h2, h3⟩ := he; first | contradiction | omega), hF⟩
    · refine qpickt ?_
      refine qgdft ?_
      refine qgdft ?_
      refine qgdft ?_
      refine qgdft ?_
      refine qgdft ?_
      refine qgdft ?_
      refine qgdft ?_
      refine qgdft ?_
      refine qgdft ?_
      refine qpickf ?_
      refine ext_intro (fun w7 U7 => ?_)
      replace own_p := own_p.upd0 U7
      replace own_q := own_q.upd0 U7
      replace h_bp := U7.get0 h_bp
      replace h_bq := U7.get0 h_bq
      replace hF := hF.go0 U7
      first | exact ⟨retB ⟨fun hh => ⟨by assumption, by assumption, hh⟩, fun hh => hh.2.2⟩, hF⟩ | exact ⟨retF (fun he => by obtain ⟨h1, h2, h3⟩ := he; first | contradiction | omega), hF⟩
  · refine qgdft ?_
    refine qgdft ?_
    refine qgdft ?_
    refine qgdft ?_
    refine qgdft ?_
    refine qgdft ?_
    refine qgdft ?_
    refine qgdft ?_
    refine qgdft ?_
    refine qpickf ?_
    refine qgdft ?_
    refine qgdft ?_
    refine qgdft ?_
    refine qgdft ?_
    refine qgdft ?_
    refine qgdft ?_
    refine qgdft ?_
    refine qgdft ?_
    refine qgdft ?_
    refine qpickf ?_
    refine ext_intro (fun w9 U9 => ?_)
    replace own_p := own_p.upd0 U9
    replace own_q := own_q.upd0 U9
    replace h_bp := U9.get0 h_bp
    replace h_bq := U9.get0 h_bq
    replace hF := hF.go0 U9
    first | exact ⟨retB ⟨fun hh => ⟨by assumption, by assumption, hh⟩, fun hh => hh.2.2⟩, hF⟩ | exact ⟨retF (fun he => by obtain ⟨h1, h2, h3⟩ := he; first | contradiction | omega), hF⟩

/-- greenscreen/greenscreenref14.Has -/
theorem c_greenscreenref14_Has {r c cur i : Int} {A : Option Addr} {n cp : Nat} {w : World} :
    Calls Tryd.prog 12 #[.agg #[.int .i64 r, .int .i64 c, .slice A n cp, .int .i64 cur], .int .i64 i] w fun e w' => e = .returned (.bool (decide (0 ≤ i ∧ i < n))) ∧ Upd no w w' := by
  refine F12.calls ?_
  unfold F12
  have hF : Upd no w w := Fr.refl _ _ _
  refine box_intro (by rfl) (fun b1 w1 e1 h_b1 _ U1 => ?_)
  have ge_b1 : w.heap.size ≤ b1 := by have := hF.size; omega
  replace hF := hF.go0 U1
  clear e1
  refine opv_dec (geq _ _ _ _) (fun h2 => ?_) (fun h2 => ?_)
  · refine gdtt ?_
    refine gdtt ?_
    refine opv_run (fieldAt_eq (off := 2) (by kernel_rfl)) ?_
    refine gdtt ?_
    refine opv_run (ldC (by kernel_rfl) h_b1 (by rfl)) ?_
    refine gdtt ?_
    refine opv_run (len_sl (by kernel_rfl) _ _ _) ?_
    refine gdtt ?_
    refine opv_run (lss _ _ _ _) ?_
    refine pickt ?_
    first | exact ⟨retB (by omega), hF⟩ | exact ⟨retT (by omega), hF⟩ | exact ⟨retF (by omega), hF⟩
  · refine gdft ?_
    refine gdft ?_
    refine gdft ?_
    refine gdft ?_
    refine gdft ?_
    refine pickf ?_
    first | exact ⟨retB (by omega), hF⟩ | exact ⟨retT (by omega), hF⟩ | exact ⟨retF (by omega), hF⟩

/-- greenscreen/greenscreenref14.Set -/
theorem c_greenscreenref14_Set {r c cur : Int} {A : Option Addr} {n cp : Nat} {cs : List Gs.Cell} {w : World} (rd1 : Rd w A (rows Gs.cv cs)) (hn : n = cs.length) {i : Int} {x : Gs.Cell} (hb : n ≤ 4096) :
    Calls Tryd.prog 13 #[.agg #[.int .i64 r, .int .i64 c, .slice A n cp, .int .i64 cur], .int .i64 i, .agg (Gs.cv x).toArray] w fun e w' => ∃ v, e = .returned v ∧ ∃ A' c', v = .agg #[.int .i64 r, .int .i64 c, .slice A' n c', .int .i64 cur] ∧ Rd w' A' (rows Gs.cv (Gs.setC cs i x)) ∧ (∀ k, blkOf A' k → blkOf A k ∨ w.heap.size ≤ k) ∧ Upd no w w' := by
  refine F13.calls ?_
  unfold F13
  subst hn
  have lt_rd1 := Rd.lt rd1
  have hF : Upd no w w := Fr.refl _ _ _
  refine box_intro (by rfl) (fun b1 w1 e1 h_b1 _ U1 => ?_)
  have na_rd1_b1 := rd1.apart e1
  have ge_b1 : w.heap.size ≤ b1 := by have := hF.size; omega
  replace rd1 := rd1.upd0 U1
  replace hF := hF.go0 U1
  clear e1
  refine box_intro (cs := (Gs.cv x).toArray) (by rfl) (fun b2 w2 e2 h_b2 _ U2 => ?_)
  have na_rd1_b2 := rd1.apart e2
  have ne_b1_b2 : b1 ≠ b2 := by have := lt_get h_b1; omega
  have ge_b2 : w.heap.size ≤ b2 := by have := hF.size; omega
  replace rd1 := rd1.upd0 U2
  replace h_b1 := U2.get0 h_b1
  replace hF := hF.go0 U2
  clear e2
  refine alloc_intro (cs := #[.int .i64 0, .int .i64 0, .slice none 0 0, .int .i64 0]) (by kernel_rfl) (fun b3 w3 e3 h_b3 _ U3 => ?_)
  have na_rd1_b3 := rd1.apart e3
  have ne_b1_b3 : b1 ≠ b3 := by have := lt_get h_b1; omega
  have ne_b2_b3 : b2 ≠ b3 := by have := lt_get h_b2; omega
  have ge_b3 : w.heap.size ≤ b3 := by have := hF.size; omega
  replace rd1 := rd1.upd0 U3
  replace h_b1 := U3.get0 h_b1
  replace h_b2 := U3.get0 h_b2
  replace hF := hF.go0 U3
  clear e3
  refine join_cut (fun g w' => ∃ (A1 : Option Addr) (c1 : Nat), (w'.heap[b1]? = some (.cells #[.int .i64 r, .int .i64 c, .slice A1 cs.length c1, .int .i64 cur] 32 (0, 0))) ∧ (w'.heap[b3]? = some (.cells #[.int .i64 0, .int .i64 0, .slice none 0 0, .int .i64 0] 32 (0, 0))) ∧ (Rd w' A1 (rows Gs.cv (Gs.setC cs i x))) ∧ (∀ k, blkOf A1 k → blkOf A k ∨ w.heap.size ≤ k) ∧ (rows Gs.cv (Gs.setC cs i x) = [] ∨ ∀ k, blkOf A1 k → k ≠ b3) ∧ (Upd no w w')) (fun J1 hJ1 => ?_) (fun gJ1 wJ1 hI => ?_)
  · refine opv_run (ldA (n := 4) (by kernel_rfl) h_b1 (by first | exact Nat.le_of_ble_eq_true rfl | (simp; done) | omega) (by rfl)) ?_
    refine callF_bool (c_greenscreenref14_Has) (fun w4 U4 h4 => ?_) (fun w4 U4 h4 => ?_)
    · replace rd1 := rd1.upd0 U4
      replace h_b1 := U4.get0 h_b1
      replace h_b2 := U4.get0 h_b2
      replace h_b3 := U4.get0 h_b3
      replace hF := hF.go0 U4
      try simp only [decide_eq_true_eq, decide_eq_false_iff_not] at h4
      refine condt ?_
      refine buildSlice_intro (e := 36) (m := 5) (z := #[.int .u8 0, .bool false, .bool false, .int .u8 0, .int .u8 0]) (by kernel_rfl) (by kernel_rfl) (by rfl) (by decide) (by first | (simp [fillL, splice, repL, Value.cells]; done) | (simp [fillL, splice, repL, Value.cells]; rfl)) (fun b5 w5 e5 h_b5 _ U5 => ?_)
      have na_rd1_b5 := rd1.apart e5
      have ne_b1_b5 : b1 ≠ b5 := by have := lt_get h_b1; omega
      have ne_b2_b5 : b2 ≠ b5 := by have := lt_get h_b2; omega
      have ne_b3_b5 : b3 ≠ b5 := by have := lt_get h_b3; omega
      have ge_b5 : w.heap.size ≤ b5 := by have := hF.size; omega
      replace rd1 := rd1.upd0 U5
      replace h_b1 := U5.get0 h_b1
      replace h_b2 := U5.get0 h_b2
      replace h_b3 := U5.get0 h_b3
      replace hF := hF.go0 U5
      clear e5
      have own_b5 := Own.of_block (n := 0) (xs := rows Gs.cv []) (size := 5) h_b5 ge_b5 rfl (by decide)
      refine opv_run (fieldAt_eq (off := 2) (by kernel_rfl)) ?_
      refine opv_run (ldC (by kernel_rfl) h_b1 (by rfl)) ?_
      refine app_introA (e := 36) (size := 5) (bytes := 5) (by kernel_rfl) own_b5 rd1 (by first | exact rows_len Gs.encC _ | (rw [rows_len Gs.encC]; omega)) (rows_one Gs.encC _) (by rw [rows_len Gs.encC, rows_len Gs.encC]; simp only [List.length_nil]; omega) (by have := hF.size; omega) (fun v6 w6 N6 hA6 U6 => ?_)
      have own_b5_o := own_b5
      have nb6_rd1 := ap_rd (S' := w5) (na_rd1_b5.imp_right fun h k hk hs => by cases hs; exact h _ hk rfl) rd1 hA6
      have nb6_h_b1 := ap_blk (S' := w5) (fun hs => by cases hs; exact ne_b1_b5 rfl) h_b1 hA6
      have nb6_h_b2 := ap_blk (S' := w5) (fun hs => by cases hs; exact ne_b2_b5 rfl) h_b2 hA6
      have nb6_h_b3 := ap_blk (S' := w5) (fun hs => by cases hs; exact ne_b3_b5 rfl) h_b3 hA6
      replace rd1 := rd1.updS U6 (na_rd1_b5.imp_right fun h k hk hs => by cases hs; exact h _ hk rfl)
      replace h_b1 := U6.get h_b1 (fun hs => by cases hs; exact ne_b1_b5 rfl)
      replace h_b2 := U6.get h_b2 (fun hs => by cases hs; exact ne_b2_b5 rfl)
      replace h_b3 := U6.get h_b3 (fun hs => by cases hs; exact ne_b3_b5 rfl)
      replace own_b5 := N6
      replace hF := hF.go U6 (fun i h hs => by first | exact hs | exact .inl hs | exact .inr hs | (have := (Own.ge own_b5_o hs).1; omega))
      clear own_b5_o
      rw [rows_append] at own_b5
      try simp only [List.nil_append] at own_b5
      obtain ⟨A6, c6, rfl⟩ := Own.open Gs.encC own_b5
      refine opv_run (ldA (n := 5) (cs' := (Gs.cv x).toArray) (by kernel_rfl) h_b2 (by first | exact Nat.le_of_ble_eq_true rfl | (simp; done) | omega) (by rfl)) ?_
      obtain ⟨g7, rfl, _⟩ := own_b5.at (by rw [rows_len Gs.encC]; omega)
      refine opv_run (index_slice (n := 5) (by kernel_rfl) (by omega) (by omega)) ?_
      refine store_row (i := i) Gs.encC (by kernel_rfl) own_b5 (by omega) (by omega) rfl (fun w8 N8 _ U8 => ?_)
      have own_b5_o := own_b5
      replace rd1 := rd1.updS U8 nb6_rd1
      replace h_b1 := U8.get h_b1 nb6_h_b1
      replace h_b2 := U8.get h_b2 nb6_h_b2
      replace h_b3 := U8.get h_b3 nb6_h_b3
      replace own_b5 := N8
      replace hF := hF.go U8 (fun i h hs => by first | exact hs | exact .inl hs | exact .inr hs | (have := (Own.ge own_b5_o hs).1; omega))
      clear own_b5_o
      refine opv_run (fieldAt_eq (off := 2) (by kernel_rfl)) ?_
      refine store1_intro (by kernel_rfl) rfl rfl h_b1 (by first | (simp; done) | omega | (simp [vals_length, *]; done) | (simp [vals_length, *]; omega)) (by first | (simp [vals_set]; rfl) | rfl) (fun w9 N9 _ U9 => ?_)
      replace rd1 := rd1.upd1 U9 na_rd1_b1
      replace own_b5 := own_b5.upd1 U9 (by first | assumption | exact Own.ne_blk own_b5 (by assumption) (by decide) | exact Own.not_loop own_b5 (by assumption) (by assumption) | exact Own.not_def own_b5 (by assumption))
      replace h_b1 := N9
      replace h_b2 := U9.get1 h_b2 (Ne.symm ne_b1_b2)
      replace h_b3 := U9.get1 h_b3 (Ne.symm ne_b1_b3)
      replace hF := hF.go1 U9 ge_b1
      refine hJ1 _ _ ?_
      first | (rw [← Gs.setC_in (cs := cs) (i := i) x (by omega) (by omega)] at own_b5; exact ⟨_, _, h_b1, h_b3, own_b5.rdS, fun k hk => .inr (own_b5.geb k hk).1, .inr (own_b5.neb h_b3 (by decide)), hF⟩) | exact ⟨_, _, h_b1, h_b3, by rw [Gs.setC_out x (by omega)]; exact rd1, fun k hk => .inl hk, by rw [Gs.setC_out x (by omega)]; exact na_rd1_b3, hF⟩
    · replace rd1 := rd1.upd0 U4
      replace h_b1 := U4.get0 h_b1
      replace h_b2 := U4.get0 h_b2
      replace h_b3 := U4.get0 h_b3
      replace hF := hF.go0 U4
      try simp only [decide_eq_true_eq, decide_eq_false_iff_not] at h4
      refine condf ?_
      refine hJ1 _ _ ?_
      first | (rw [← Gs.setC_in (cs := cs) (i := i) x (by omega) (by omega)] at own_b5; exact ⟨_, _, h_b1, h_b3, own_b5.rdS, fun k hk => .inr (own_b5.geb k hk).1, .inr (own_b5.neb h_b3 (by decide)), hF⟩) | exact ⟨_, _, h_b1, h_b3, by rw [Gs.setC_out x (by omega)]; exact rd1, fun k hk => .inl hk, by rw [Gs.setC_out x (by omega)]; exact na_rd1_b3, hF⟩
  · obtain ⟨A1, c1, h_b1, h_b3, rd1, hA, na_rd1_b3, hF⟩ := hI
    refine opv_run (ldA (n := 4) (by kernel_rfl) h_b1 (by first | exact Nat.le_of_ble_eq_true rfl | (simp; done) | omega) (by rfl)) ?_
    refine store_intro (n := 4) (by kernel_rfl) (by rfl) (by first | rfl | (simp [Value.cells, Value.oneCell', Gs.cv]; done)) h_b3 (by first | exact Nat.le_of_ble_eq_true rfl | (simp; done) | omega) (by first | (simp; rfl) | rfl) (fun w10 N10 _ U10 => ?_)
    replace rd1 := rd1.upd1 U10 na_rd1_b3
    replace h_b1 := U10.get1 h_b1 ne_b1_b3
    replace h_b3 := N10
    replace hF := hF.go1 U10 ge_b3
    refine ldv_run (ldA (n := 4) (by kernel_rfl) h_b3 (by first | exact Nat.le_of_ble_eq_true rfl | simp | omega) (by rfl)) ?_
    exact ⟨_, rfl, _, _, rfl, rd1, hA, hF⟩

/-- greenscreen/greenscreenref02.Between -/
theorem c_greenscreenref02_Between {r c i j : Int} {w : World} :
    Calls Tryd.prog 35 #[.agg #[.int .i64 r, .int .i64 c], .int .i64 i, .int .i64 j] w fun e w' => ∃ v, e = .returned v ∧ ∃ A c', v = .slice A (Gs.betw (Gs.cellsN r c) i j).length c' ∧ Rd w' A (vals .i64 (Gs.betw (Gs.cellsN r c) i j)) ∧ GeA A (vals .i64 (Gs.betw (Gs.cellsN r c) i j)) w.heap.size ∧ Upd no w w' := by
  refine F35.calls ?_
  unfold F35
  have hcb := Gs.cells_bd r c
  have hF : Upd no w w := Fr.refl _ _ _
  refine box_intro (by rfl) (fun b1 w1 e1 h_b1 _ U1 => ?_)
  have ge_b1 : w.heap.size ≤ b1 := by have := hF.size; omega
  replace hF := hF.go0 U1
  clear e1
  refine buildSlice_intro (e := 3) (m := 1) (z := #[.int .i64 0]) (by kernel_rfl) (by kernel_rfl) (by rfl) (by decide) (by first | (simp [fillL, splice, repL, Value.cells]; done) | (simp [fillL, splice, repL, Value.cells]; rfl)) (fun b2 w2 e2 h_b2 _ U2 => ?_)
  have ne_b1_b2 : b1 ≠ b2 := by have := lt_get h_b1; omega
  have ge_b2 : w.heap.size ≤ b2 := by have := hF.size; omega
  replace h_b1 := U2.get0 h_b1
  replace hF := hF.go0 U2
  clear e2
  refine opv_run (ldA (n := 2) (by kernel_rfl) h_b1 (by first | exact Nat.le_of_ble_eq_true rfl | (simp; done) | omega) (by rfl)) ?_
  refine callF_val (c_greenscreenref02_Cells) (fun w3 U3 => ?_)
  replace h_b1 := U3.get0 h_b1
  replace h_b2 := U3.get0 h_b2
  replace hF := hF.go0 U3
  refine opv_dec (lss _ _ _ _) (fun h4 => ?_) (fun h4 => ?_)
  · refine gdtf ?_
    refine gdtf ?_
    refine gdtf ?_
    refine pickt ?_
    refine gdtf ?_
    refine gdtf ?_
    refine pickt ?_
    refine gdtf ?_
    refine gdtf ?_
    refine gdtf ?_
    refine pickt ?_
    refine condt ?_
    first | (obtain ⟨A7, c7, rfl, rd7⟩ := own7.rd1; exact ⟨_, rfl, A7, c7, rfl, rd7, .inr fun k hk => (own7.geb k hk).1, hF⟩) | exact ⟨_, rfl, _, _, by rw [Gs.betw_len, Gs.betw_0 (by omega)], by unfold Gs.betw; rw [Gs.betw_0 (by omega)]; exact Rd.nil _ _, by unfold Gs.betw; rw [Gs.betw_0 (by omega)]; exact .inl rfl, hF⟩
  · refine gdff ?_
    refine gdff ?_
    refine gdff ?_
    refine opv_dec (geq _ _ _ _) (fun h6 => ?_) (fun h6 => ?_)
    · refine pickf ?_
      refine gdtf ?_
      refine gdtf ?_
      refine pickt ?_
      refine gdtf ?_
      refine gdtf ?_
      refine gdtf ?_
      refine pickt ?_
      refine condt ?_
      first | (obtain ⟨A7, c7, rfl, rd7⟩ := own7.rd1; exact ⟨_, rfl, A7, c7, rfl, rd7, .inr fun k hk => (own7.geb k hk).1, hF⟩) | exact ⟨_, rfl, _, _, by rw [Gs.betw_len, Gs.betw_0 (by omega)], by unfold Gs.betw; rw [Gs.betw_0 (by omega)]; exact Rd.nil _ _, by unfold Gs.betw; rw [Gs.betw_0 (by omega)]; exact .inl rfl, hF⟩
    · refine pickf ?_
      refine gdff ?_
      refine gdff ?_
      refine opv_dec (lss _ _ _ _) (fun h8 => ?_) (fun h8 => ?_)
      · refine pickf ?_
        refine gdtf ?_
        refine gdtf ?_
        refine gdtf ?_
        refine pickt ?_
        refine condt ?_
        first | (obtain ⟨A7, c7, rfl, rd7⟩ := own7.rd1; exact ⟨_, rfl, A7, c7, rfl, rd7, .inr fun k hk => (own7.geb k hk).1, hF⟩) | exact ⟨_, rfl, _, _, by rw [Gs.betw_len, Gs.betw_0 (by omega)], by unfold Gs.betw; rw [Gs.betw_0 (by omega)]; exact Rd.nil _ _, by unfold Gs.betw; rw [Gs.betw_0 (by omega)]; exact .inl rfl, hF⟩
      · refine pickf ?_
        refine gdff ?_
        refine gdff ?_
        refine gdff ?_
        refine opv_dec (geq _ _ _ _) (fun h10 => ?_) (fun h10 => ?_)
        · refine pickf ?_
          refine condt ?_
          first | (obtain ⟨A7, c7, rfl, rd7⟩ := own7.rd1; exact ⟨_, rfl, A7, c7, rfl, rd7, .inr fun k hk => (own7.geb k hk).1, hF⟩) | exact ⟨_, rfl, _, _, by rw [Gs.betw_len, Gs.betw_0 (by omega)], by unfold Gs.betw; rw [Gs.betw_0 (by omega)]; exact Rd.nil _ _, by unfold Gs.betw; rw [Gs.betw_0 (by omega)]; exact .inl rfl, hF⟩
        · refine pickf ?_
          refine condf ?_
          first | refine opv_run (sub_i64 _ (by omega)) ?_ | refine opv_run (subI _ _ _ _) ?_
          refine join_cut (fun g w' => (g 9 = .int .i64 ((Gs.betwL (Gs.cellsN r c) i j) : Nat)) ∧ (w'.heap[b2]? = some (.cells #[] 3 (0, 0))) ∧ (Upd no w w')) (fun J1 hJ1 => ?_) (fun gJ1 wJ1 hI => ?_)
          · refine opv_dec (leq _ _ _ _) (fun h12 => ?_) (fun h12 => ?_)
            · refine condt ?_
              first | refine opv_run (add_i64 _ (by omega)) ?_ | refine opv_run (addI _ _ _ _) ?_
              refine hJ1 _ _ ?_
              exact ⟨(by show Value.int _ _ = Value.int _ _; congr 1; have hb := Gs.betw_1 (n := Gs.cellsN r c) (i := i) (j := j) (by omega); split at hb <;> omega), h_b2, hF⟩
            · refine condf ?_
              refine hJ1 _ _ ?_
              exact ⟨(by show Value.int _ _ = Value.int _ _; congr 1; have hb := Gs.betw_1 (n := Gs.cellsN r c) (i := i) (j := j) (by omega); split at hb <;> omega), h_b2, hF⟩
          · obtain ⟨g9, h_b2, hF⟩ := hI
            try rw [g9]
            have hb1 := Gs.betw_1 (n := Gs.cellsN r c) (i := i) (j := j) (by omega)
            have hbn : ((Gs.betwL (Gs.cellsN r c) i j) : Int) ≤ Gs.cellsN r c := by split at hb1 <;> omega
            refine join_cut (fun g w' => ∃ (v7 : Value), (g 7 = v7) ∧ (Own w.heap.size w' 3 1 v7 (vals .i64 ((List.range (Gs.betwL (Gs.cellsN r c) i j)).map fun k : Nat => (i + k) % Gs.cellsN r c))) ∧ (Upd no w w')) (fun J2 hJ2 => ?_) (fun gJ2 wJ2 hI => ?_)
            · refine loop_intro (fun g w' => ∃ (k : Nat) (v7 : Value), (g 10 = .int .i64 (k : Int)) ∧ (k ≤ (Gs.betwL (Gs.cellsN r c) i j)) ∧ (g 7 = v7) ∧ (Own w.heap.size w' 3 1 v7 (vals .i64 ((List.range k).map fun k : Nat => (i + k) % Gs.cellsN r c))) ∧ (Upd no w w')) (fun g w' => (Gs.betwL (Gs.cellsN r c) i j) - (RowKit.intOf (g 10)).toNat) ?_ (fun g3 wl3 hI => ?_)
              · exact ⟨0, _, (by first | exact g10 | rfl), Nat.zero_le _, (by first | exact g7 | rfl), (Own.of_block (n := 0) h_b2 ge_b2 rfl (by decide)), hF⟩
              · obtain ⟨k, v7, g10, hk, g7, own7, hF⟩ := hI
                try rw [g10]
                try rw [g7]
                refine opv_dec (lss _ _ _ _) (fun h13 => ?_) (fun h13 => ?_)
                · refine condt ?_
                  first | refine opv_run (add_i64 _ (by omega)) ?_ | refine opv_run (addI _ _ _ _) ?_
                  refine opv_run (remN _ (by omega) (by omega) (by omega)) ?_
                  refine buildSlice_intro (e := 3) (m := 1) (z := #[.int .i64 0]) (by kernel_rfl) (by kernel_rfl) (by rfl) (by decide) (by first | (simp [fillL, splice, repL, Value.cells]; done) | (simp [fillL, splice, repL, Value.cells]; rfl)) (fun b14 w14 e14 h_b14 _ U14 => ?_)
                  have na_own7_b14 := own7.apart e14
                  have ge_b14 : w.heap.size ≤ b14 := by have := hF.size; omega
                  replace own7 := own7.upd0 U14
                  replace hF := hF.go0 U14
                  clear e14
                  refine app_intro (e := 3) (size := 1) (bytes := 8) (by kernel_rfl) own7 (Rd.of_blockL h_b14) rfl (by first | (simp [Value.oneCell']; done) | (intro u hu; simp only [List.mem_singleton] at hu; subst hu; rfl) | (simp; intros; subst_vars; rfl)) (by simp only [vals_length, List.length_take, List.length_cons, List.length_nil, List.length_append, List.length_map, List.length_range]; omega) (by have := hF.size; omega) (fun v15 w15 N15 U15 => ?_)
                  have own7_o := own7
                  replace own7 := N15
                  replace h_b14 := U15.get h_b14 (fun h => na_own7_b14 _ h rfl)
                  replace hF := hF.go U15 (fun i h hs => by first | exact hs | exact .inl hs | exact .inr hs | (have := (Own.ge own7_o hs).1; omega))
                  clear own7_o
                  first | refine opv_run (add_i64 _ (by omega)) ?_ | refine opv_run (addI _ _ _ _) ?_
                  exact ⟨⟨k + 1, _, (by first | exact g10 | rfl), by omega, (by first | exact g7 | rfl), (own_range own7), hF⟩, cnt_lt (by first | rfl | exact g10) rfl (by omega)⟩
                · refine condf ?_
                  refine hJ2 _ _ ?_
                  exact ⟨_, (by first | exact g7 | rfl), (by rw [show k = (Gs.betwL (Gs.cellsN r c) i j) by omega] at own7; exact own7), hF⟩
            · obtain ⟨v7, g7, own7, hF⟩ := hI
              try rw [g7]
              first | (obtain ⟨A7, c7, rfl, rd7⟩ := own7.rd1; exact ⟨_, rfl, A7, c7, rfl, rd7, .inr fun k hk => (own7.geb k hk).1, hF⟩) | exact ⟨_, rfl, _, _, by rw [Gs.betw_len, Gs.betw_0 (by omega)], by unfold Gs.betw; rw [Gs.betw_0 (by omega)]; exact Rd.nil _ _, by unfold Gs.betw; rw [Gs.betw_0 (by omega)]; exact .inl rfl, hF⟩

end Go.Proofs.YtojcbhkhfcddnaaDoor
