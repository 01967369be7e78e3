/-
  Contracts of functions of the program, walked over their shallow forms. No condition but the ones that each states.
-/
import Derived.Test.YtojcbhkhfcddnaaDoorPa
namespace Go.Proofs.YtojcbhkhfcddnaaDoor
open Go Go.Sh
set_option linter.unusedVariables false
set_option maxRecDepth 100000


/-- greenscreen/addr.Move -/
theorem c_addr_Move {r c i j : Int} {w : World} :
    Calls Tryd.prog 44 #[.agg #[.int .i64 r, .int .i64 c], .int .i64 i, .int .i64 j] w fun e w' => e = .returned (.int .i64 (Gs.moveN (Gs.cellsN r c) i j)) ∧ Upd no w w' := by
  refine F44.calls ?_
  unfold F44
  have hcb := Gs.cells_bd r c
  have hF : Upd no w w := Fr.refl _ _ _
  refine box_intro (by rfl) (fun b1 w1 e1 h_b1 _ U1 => ?_)
  have ge_b1 : w.heap.size ≤ b1 := by have := hF.size; omega
  replace hF := hF.go0 U1
  clear e1
  refine opv_run (ldA (n := 2) (by kernel_rfl) h_b1 (by first | exact Nat.le_of_ble_eq_true rfl | (simp; done) | omega) (by rfl)) ?_
  refine callF_val (c_addr_Cells) (fun w2 U2 => ?_)
  replace h_b1 := U2.get0 h_b1
  replace hF := hF.go0 U2
  refine opv_dec (eqI _ _ _ _ _) (fun h3 => ?_) (fun h3 => ?_)
  · refine condt ?_
    first | exact ⟨retI (by unfold Gs.moveN; rw [if_pos (by omega)]), hF⟩ | exact ⟨retI (Gs.move_eq (by omega)), hF⟩
  · refine condf ?_
    refine drawn_S (S := no) (fun w5 U5 => ?_)
    replace h_b1 := U5.get0 h_b1
    replace hF := hF.go0 U5
    refine qop_run (fun w' hw' => (remT _ (by omega) (by omega))) ?_
    refine qop_run (fun w' hw' => (remT _ (by omega) (by omega))) ?_
    have m1 := Gs.tmod_bd i (show 0 < Gs.cellsN r c by omega)
    have m2 := Gs.tmod_bd j (show 0 < Gs.cellsN r c by omega)
    first | refine qop_run (fun w' hw' => (add_i64 _ (by omega))) ?_ | refine qop_run (fun w' hw' => (addI _ _ _ _)) ?_
    refine qop_run (fun w' hw' => (remT _ (by omega) (by omega))) ?_
    have m3 := Gs.tmod_bd (i.tmod (Gs.cellsN r c) + j.tmod (Gs.cellsN r c)) (show 0 < Gs.cellsN r c by omega)
    first | refine qop_run (fun w' hw' => (add_i64 _ (by omega))) ?_ | refine qop_run (fun w' hw' => (addI _ _ _ _)) ?_
    refine qop_run (fun w' hw' => (remT _ (by omega) (by omega))) ?_
    refine ext_intro (fun w6 U6 => ?_)
    replace h_b1 := U6.get0 h_b1
    replace hF := hF.go0 U6
    first | exact ⟨retI (by unfold Gs.moveN; rw [if_pos (by omega)]), hF⟩ | exact ⟨retI (Gs.move_eq (by omega)), hF⟩

/-- greenscreen/addr.Between -/
theorem c_addr_Between {r c i j : Int} {w : World} :
    Calls Tryd.prog 34 #[.agg #[.int .i64 r, .int .i64 c], .int .i64 i, .int .i64 j] w fun e w' => ∃ v, e = .returned v ∧ ∃ b3 b4 b5, v = .func (.func 43) #[] #[.pointer (some ⟨b3, 0, none⟩), .pointer (some ⟨b4, 0, none⟩), .pointer (some ⟨b5, 0, none⟩)] ∧ w.heap.size ≤ b3 ∧ w.heap.size ≤ b4 ∧ w.heap.size ≤ b5 ∧ w'.heap[b3]? = some (.cells #[.int .i64 r, .int .i64 c] 23 (0, 0)) ∧ w'.heap[b4]? = some (.cells #[.int .i64 i] 3 (0, 0)) ∧ w'.heap[b5]? = some (.cells #[.int .i64 j] 3 (0, 0)) ∧ Upd no w w' := by
  refine F34.calls ?_
  unfold F34
  have hF : Upd no w w := Fr.refl _ _ _
  refine box_intro (by rfl) (fun b1 w1 e1 h_b1 _ U1 => ?_)
  have ge_b1 : w.heap.size ≤ b1 := by have := hF.size; omega
  replace hF := hF.go0 U1
  clear e1
  refine box_intro (by rfl) (fun b2 w2 e2 h_b2 _ U2 => ?_)
  have ne_b1_b2 : b1 ≠ b2 := by have := lt_get h_b1; omega
  have ge_b2 : w.heap.size ≤ b2 := by have := hF.size; omega
  replace h_b1 := U2.get0 h_b1
  replace hF := hF.go0 U2
  clear e2
  refine box_intro (by rfl) (fun b3 w3 e3 h_b3 _ U3 => ?_)
  have ne_b1_b3 : b1 ≠ b3 := by have := lt_get h_b1; omega
  have ne_b2_b3 : b2 ≠ b3 := by have := lt_get h_b2; omega
  have ge_b3 : w.heap.size ≤ b3 := by have := hF.size; omega
  replace h_b1 := U3.get0 h_b1
  replace h_b2 := U3.get0 h_b2
  replace hF := hF.go0 U3
  clear e3
  refine opv_run (mkF _ _ _) ?_
  exact ⟨_, rfl, b1, b2, b3, rfl, ge_b1, ge_b2, ge_b3, h_b1, h_b2, h_b3, hF⟩

/-- greenscreen/addr.Between$1 -/
theorem c_addr_Between_1 {r c i j : Int} {b3 b4 b5 : Nat} {y : Value} {J : Nat → World → Prop} {X : World → Prop} {w : World} (hcap : ∀ k w', J k w' → w'.heap[b3]? = some (.cells #[.int .i64 r, .int .i64 c] 23 (0, 0)) ∧ w'.heap[b4]? = some (.cells #[.int .i64 i] 3 (0, 0)) ∧ w'.heap[b5]? = some (.cells #[.int .i64 j] 3 (0, 0))) (hst : ∀ k w' w'', J k w' → Upd no w' w'' → J k w'') (hy : ∀ k w' x, (Gs.betw (Gs.cellsN r c) i j)[k]? = some x → J k w' → CallsYd Tryd.prog y #[.int .i64 x] w' (J (k + 1)) X) (h0 : J 0 w) :
    Calls Tryd.prog 43 #[y, .pointer (some ⟨b3, 0, none⟩), .pointer (some ⟨b4, 0, none⟩), .pointer (some ⟨b5, 0, none⟩)] w fun e w' => (∃ v, e = .returned v) ∧ (J (Gs.betw (Gs.cellsN r c) i j).length w' ∨ X w') := by
  refine F43.calls ?_
  unfold F43
  have hcb := Gs.cells_bd r c
  rw [Gs.betw_len]
  obtain ⟨h_b3, h_b4, h_b5⟩ := hcap _ _ h0
  have lt_h_b3 := lt_get h_b3
  have lt_h_b4 := lt_get h_b4
  have lt_h_b5 := lt_get h_b5
  refine opv_run (ldA (n := 2) (by kernel_rfl) h_b3 (by first | exact Nat.le_of_ble_eq_true rfl | (simp; done) | omega) (by rfl)) ?_
  refine callF_val (c_addr_Cells) (fun w1 U1 => ?_)
  replace h_b3 := U1.get0 h_b3
  replace h_b4 := U1.get0 h_b4
  replace h_b5 := U1.get0 h_b5
  replace h0 := hst _ _ _ h0 U1
  refine opv_run (ldC (by kernel_rfl) h_b4 (by rfl)) ?_
  refine opv_dec (lss _ _ _ _) (fun h2 => ?_) (fun h2 => ?_)
  · refine gdtf ?_
    refine gdtf ?_
    refine gdtf ?_
    refine pickt ?_
    refine gdtf ?_
    refine gdtf ?_
    refine pickt ?_
    refine gdtf ?_
    refine gdtf ?_
    refine gdtf ?_
    refine pickt ?_
    refine condt ?_
    first | exact ⟨⟨_, rfl⟩, .inr hX⟩ | exact ⟨⟨_, rfl⟩, .inl (by rw [Gs.betw_0 (by omega)]; exact h0)⟩ | exact ⟨⟨_, rfl⟩, .inl (by rw [← (Gs.betw_end (n := Gs.cellsN r c) (i := i) (j := j) (by omega) hk).1 (by assumption)]; exact hJ2)⟩
  · refine gdff ?_
    refine opv_run (ldC (by kernel_rfl) h_b4 (by rfl)) ?_
    refine gdff ?_
    refine gdff ?_
    refine opv_dec (geq _ _ _ _) (fun h4 => ?_) (fun h4 => ?_)
    · refine pickf ?_
      refine gdtf ?_
      refine gdtf ?_
      refine pickt ?_
      refine gdtf ?_
      refine gdtf ?_
      refine gdtf ?_
      refine pickt ?_
      refine condt ?_
      first | exact ⟨⟨_, rfl⟩, .inr hX⟩ | exact ⟨⟨_, rfl⟩, .inl (by rw [Gs.betw_0 (by omega)]; exact h0)⟩ | exact ⟨⟨_, rfl⟩, .inl (by rw [← (Gs.betw_end (n := Gs.cellsN r c) (i := i) (j := j) (by omega) hk).1 (by assumption)]; exact hJ2)⟩
    · refine pickf ?_
      refine gdff ?_
      refine opv_run (ldC (by kernel_rfl) h_b5 (by rfl)) ?_
      refine gdff ?_
      refine opv_dec (lss _ _ _ _) (fun h6 => ?_) (fun h6 => ?_)
      · refine pickf ?_
        refine gdtf ?_
        refine gdtf ?_
        refine gdtf ?_
        refine pickt ?_
        refine condt ?_
        first | exact ⟨⟨_, rfl⟩, .inr hX⟩ | exact ⟨⟨_, rfl⟩, .inl (by rw [Gs.betw_0 (by omega)]; exact h0)⟩ | exact ⟨⟨_, rfl⟩, .inl (by rw [← (Gs.betw_end (n := Gs.cellsN r c) (i := i) (j := j) (by omega) hk).1 (by assumption)]; exact hJ2)⟩
      · refine pickf ?_
        refine gdff ?_
        refine opv_run (ldC (by kernel_rfl) h_b5 (by rfl)) ?_
        refine gdff ?_
        refine gdff ?_
        refine opv_dec (geq _ _ _ _) (fun h8 => ?_) (fun h8 => ?_)
        · refine pickf ?_
          refine condt ?_
          first | exact ⟨⟨_, rfl⟩, .inr hX⟩ | exact ⟨⟨_, rfl⟩, .inl (by rw [Gs.betw_0 (by omega)]; exact h0)⟩ | exact ⟨⟨_, rfl⟩, .inl (by rw [← (Gs.betw_end (n := Gs.cellsN r c) (i := i) (j := j) (by omega) hk).1 (by assumption)]; exact hJ2)⟩
        · refine pickf ?_
          refine condf ?_
          refine opv_run (ldC (by kernel_rfl) h_b4 (by rfl)) ?_
          refine loop_intro (fun g w' => ∃ k : Nat, k < Gs.betwL (Gs.cellsN r c) i j ∧ g 6 = .int .i64 ((i + k) % Gs.cellsN r c) ∧ J k w') (fun g w' => Gs.betwL (Gs.cellsN r c) i j - ((RowKit.intOf (g 6) - i) % Gs.cellsN r c).toNat) ?_ (fun g1 wl1 hI => ?_)
          · have hb := Gs.betw_1 (n := Gs.cellsN r c) (i := i) (j := j) (by omega)
            exact ⟨0, by split at hb <;> omega, by show Value.int _ _ = _; rw [Int.emod_eq_of_lt (by omega) (by omega)]; simp, h0⟩
          · obtain ⟨k, hk, g6, hJ⟩ := hI
            rw [g6]
            have hb1 := Gs.betw_1 (n := Gs.cellsN r c) (i := i) (j := j) (by omega)
            have hkn : (k : Int) + 1 ≤ Gs.cellsN r c := by split at hb1 <;> omega
            refine callYd_i (hy k _ _ (Gs.betw_at hk) hJ) (fun wy10 hJ2 => ?_) (fun wy10 hX => ?_)
            · obtain ⟨h_b3, h_b4, h_b5⟩ := hcap _ _ hJ2
              refine condt ?_
              refine opv_run (ldA (n := 2) (by kernel_rfl) h_b3 (by first | exact Nat.le_of_ble_eq_true rfl | (simp; done) | omega) (by rfl)) ?_
              refine callF_val (c_addr_Move) (fun w11 U11 => ?_)
              replace h_b3 := U11.get0 h_b3
              replace h_b4 := U11.get0 h_b4
              replace h_b5 := U11.get0 h_b5
              replace hJ2 := hst _ _ _ hJ2 U11
              rw [Gs.move_1 (by omega)]
              refine opv_run (ldC (by kernel_rfl) h_b5 (by rfl)) ?_
              refine opv_dec (eqI _ _ _ _ _) (fun h12 => ?_) (fun h12 => ?_)
              · refine condt ?_
                first | exact ⟨⟨_, rfl⟩, .inr hX⟩ | exact ⟨⟨_, rfl⟩, .inl (by rw [Gs.betw_0 (by omega)]; exact h0)⟩ | exact ⟨⟨_, rfl⟩, .inl (by rw [← (Gs.betw_end (n := Gs.cellsN r c) (i := i) (j := j) (by omega) hk).1 (by assumption)]; exact hJ2)⟩
              · refine condf ?_
                have he := Gs.betw_end (n := Gs.cellsN r c) (i := i) (j := j) (by omega) hk
                have hk1 : k + 1 < Gs.betwL (Gs.cellsN r c) i j := by by_cases hq : k + 1 = Gs.betwL (Gs.cellsN r c) i j; exact absurd (he.2 hq) (by assumption); omega
                refine ⟨⟨k + 1, hk1, rfl, hJ2⟩, ?_⟩
                have m1 := Gs.behind (n := Gs.cellsN r c) (i := i) (k := k) (by omega)
                have m2 := Gs.behind (n := Gs.cellsN r c) (i := i) (k := k + 1) (by split at hb1 <;> omega)
                show Gs.betwL _ _ _ - ((RowKit.intOf (Value.int _ _) - i) % _).toNat < Gs.betwL _ _ _ - ((RowKit.intOf (Value.int _ _) - i) % _).toNat
                simp only [RowKit.intOf]
                rw [m1, m2]
                omega
            · refine condf ?_
              first | exact ⟨⟨_, rfl⟩, .inr hX⟩ | exact ⟨⟨_, rfl⟩, .inl (by rw [Gs.betw_0 (by omega)]; exact h0)⟩ | exact ⟨⟨_, rfl⟩, .inl (by rw [← (Gs.betw_end (n := Gs.cellsN r c) (i := i) (j := j) (by omega) hk).1 (by assumption)]; exact hJ2)⟩

/-- greenscreen/plane.New -/
theorem c_plane_New0 {r c : Int} {w : World} (hz : (Gs.cellsN r c) = 0) :
    Calls Tryd.prog 9 #[.agg #[.int .i64 r, .int .i64 c]] w fun e w' => e = .returned (.tuple #[.pointer none, .int .i64 1]) ∧ Upd no w w' := by
  refine F9.calls ?_
  unfold F9
  have hF : Upd no w w := Fr.refl _ _ _
  refine box_intro (by rfl) (fun b1 w1 e1 h_b1 _ U1 => ?_)
  have ge_b1 : w.heap.size ≤ b1 := by have := hF.size; omega
  replace hF := hF.go0 U1
  clear e1
  refine opv_run (ldA (n := 2) (by kernel_rfl) h_b1 (by first | exact Nat.le_of_ble_eq_true rfl | (simp; done) | omega) (by rfl)) ?_
  refine callF_val (c_addr_Cells) (fun w2 U2 => ?_)
  replace h_b1 := U2.get0 h_b1
  replace hF := hF.go0 U2
  refine opv_T (eqI _ _ _ _ _) (hz) ?_
  refine condt ?_
  exact ⟨rfl, hF⟩

/-- greenscreen/plane.New -/
theorem c_plane_New1 {r c : Int} {w : World} (hz : (Gs.cellsN r c) ≠ 0) :
    Calls Tryd.prog 9 #[.agg #[.int .i64 r, .int .i64 c]] w fun e w' => ∃ v, e = .returned v ∧ ∃ bp g, v = .tuple #[.pointer (some ⟨bp, 0, none⟩), .int .i64 0] ∧ w.heap.size ≤ bp ∧ w'.heap[bp]? = some (.cells #[.int .i64 r, .int .i64 c, .slice (some ⟨g, 0, none⟩) (Gs.cellsN r c).toNat (Gs.cellsN r c).toNat, .int .i64 0] 66 (0, 0)) ∧ Own w.heap.size w' 36 5 (.slice (some ⟨g, 0, none⟩) (Gs.cellsN r c).toNat (Gs.cellsN r c).toNat) (rows Gs.cv (List.replicate (Gs.cellsN r c).toNat Gs.zc)) ∧ Upd no w w' := by
  refine F9.calls ?_
  unfold F9
  have hcb := Gs.cells_bd r c
  have hF : Upd no w w := Fr.refl _ _ _
  refine box_intro (by rfl) (fun b1 w1 e1 h_b1 _ U1 => ?_)
  have ge_b1 : w.heap.size ≤ b1 := by have := hF.size; omega
  replace hF := hF.go0 U1
  clear e1
  refine opv_run (ldA (n := 2) (by kernel_rfl) h_b1 (by first | exact Nat.le_of_ble_eq_true rfl | (simp; done) | omega) (by rfl)) ?_
  refine callF_val (c_addr_Cells) (fun w2 U2 => ?_)
  replace h_b1 := U2.get0 h_b1
  replace hF := hF.go0 U2
  refine opv_F (eqI _ _ _ _ _) (hz) ?_
  refine condf ?_
  refine drawn_S (S := no) (fun w3 U3 => ?_)
  replace h_b1 := U3.get0 h_b1
  replace hF := hF.go0 U3
  refine qop_run (fun w' hw' => by have h_b1 := hw'.get0 h_b1; exact (ldA (n := 2) (by kernel_rfl) h_b1 (by first | exact Nat.le_of_ble_eq_true rfl | (simp; done) | omega) (by rfl))) ?_
  refine ext_intro (fun w4 U4 => ?_)
  replace h_b1 := U4.get0 h_b1
  replace hF := hF.go0 U4
  refine lop_i ?_
  refine makeRows (e := 36) (bytes := 5) (z := Gs.zc) Gs.encC (by kernel_rfl) (by kernel_rfl) (by omega) (by omega) (fun b5 w5 e5 own_b5 _ U5 => ?_)
  have ne_b1_b5 : b1 ≠ b5 := by have := lt_get h_b1; omega
  have ge_b5 : w.heap.size ≤ b5 := by have := hF.size; omega
  replace own_b5 := own_b5.mono (B' := w.heap.size) (by have := hF.size; omega)
  replace h_b1 := U5.get0 h_b1
  replace hF := hF.go0 U5
  clear e5
  refine ⟨U5, ?_⟩
  refine qop_run (fun w' hw' => (build_eq (l := [(0, 2), (2, 1), (3, 1)]) (z := #[.int .i64 0, .int .i64 0, .slice none 0 0, .int .i64 0]) (by kernel_rfl) (by first | (simp [fillL, splice, repL, Value.cells]; done) | (simp [fillL, splice, repL, Value.cells]; rfl)))) ?_
  refine ext_intro (fun w6 U6 => ?_)
  replace own_b5 := own_b5.upd0 U6
  replace h_b1 := U6.get0 h_b1
  replace hF := hF.go0 U6
  refine lop_i ?_
  refine box_intro (by rfl) (fun b7 w7 e7 h_b7 _ U7 => ?_)
  have ne_b1_b7 : b1 ≠ b7 := by have := lt_get h_b1; omega
  have na_own_b5_b7 := own_b5.apart e7
  have ge_b7 : w.heap.size ≤ b7 := by have := hF.size; omega
  replace own_b5 := own_b5.upd0 U7
  replace h_b1 := U7.get0 h_b1
  replace hF := hF.go0 U7
  clear e7
  refine ⟨U7, ?_⟩
  refine ext_intro (fun w8 U8 => ?_)
  replace own_b5 := own_b5.upd0 U8
  replace h_b1 := U8.get0 h_b1
  replace h_b7 := U8.get0 h_b7
  replace hF := hF.go0 U8
  exact ⟨_, rfl, _, _, rfl, by assumption, by assumption, by assumption, hF⟩

/-- greenscreen/greenscreenref14.New -/
theorem c_ref14_New0 {r c : Int} {w : World} (hz : (Gs.cellsN r c) = 0) :
    Calls Tryd.prog 10 #[.agg #[.int .i64 r, .int .i64 c]] w fun e w' => e = .returned (.tuple #[.agg #[.int .i64 0, .int .i64 0, .slice none 0 0, .int .i64 0], .int .i64 1]) ∧ Upd no w w' := by
  refine F10.calls ?_
  unfold F10
  have hF : Upd no w w := Fr.refl _ _ _
  refine box_intro (by rfl) (fun b1 w1 e1 h_b1 _ U1 => ?_)
  have ge_b1 : w.heap.size ≤ b1 := by have := hF.size; omega
  replace hF := hF.go0 U1
  clear e1
  refine alloc_intro (cs := #[.int .i64 0, .int .i64 0, .slice none 0 0, .int .i64 0]) (by kernel_rfl) (fun b2 w2 e2 h_b2 _ U2 => ?_)
  have ne_b1_b2 : b1 ≠ b2 := by have := lt_get h_b1; omega
  have ge_b2 : w.heap.size ≤ b2 := by have := hF.size; omega
  replace h_b1 := U2.get0 h_b1
  replace hF := hF.go0 U2
  clear e2
  refine opv_run (ldA (n := 2) (by kernel_rfl) h_b1 (by first | exact Nat.le_of_ble_eq_true rfl | (simp; done) | omega) (by rfl)) ?_
  refine callF_val (c_greenscreenref02_Cells) (fun w3 U3 => ?_)
  replace h_b1 := U3.get0 h_b1
  replace h_b2 := U3.get0 h_b2
  replace hF := hF.go0 U3
  refine opv_T (eqI _ _ _ _ _) (hz) ?_
  refine condt ?_
  refine opv_run (build_eq (l := [(0, 2), (2, 1), (3, 1)]) (z := #[.int .i64 0, .int .i64 0, .slice none 0 0, .int .i64 0]) (by kernel_rfl) (by first | (simp [fillL, splice, repL, Value.cells]; done) | (simp [fillL, splice, repL, Value.cells]; rfl))) ?_
  refine store_intro (n := 4) (by kernel_rfl) (by rfl) (by first | rfl | (simp [Value.cells, Value.oneCell', Gs.cv]; done)) h_b2 (by first | exact Nat.le_of_ble_eq_true rfl | (simp; done) | omega) (by first | (simp; rfl) | rfl) (fun w4 N4 _ U4 => ?_)
  replace h_b1 := U4.get1 h_b1 ne_b1_b2
  replace h_b2 := N4
  replace hF := hF.go1 U4 ge_b2
  refine ldv_run (ldA (n := 4) (by kernel_rfl) h_b2 (by first | exact Nat.le_of_ble_eq_true rfl | simp | omega) (by rfl)) ?_
  exact ⟨rfl, hF⟩

/-- greenscreen/greenscreenref14.New -/
theorem c_ref14_New1 {r c : Int} {w : World} (hz : (Gs.cellsN r c) ≠ 0) :
    Calls Tryd.prog 10 #[.agg #[.int .i64 r, .int .i64 c]] w fun e w' => ∃ v, e = .returned v ∧ ∃ g, v = .tuple #[.agg #[.int .i64 r, .int .i64 c, .slice (some ⟨g, 0, none⟩) (Gs.cellsN r c).toNat (Gs.cellsN r c).toNat, .int .i64 0], .int .i64 0] ∧ Own w.heap.size w' 36 5 (.slice (some ⟨g, 0, none⟩) (Gs.cellsN r c).toNat (Gs.cellsN r c).toNat) (rows Gs.cv (List.replicate (Gs.cellsN r c).toNat Gs.zc)) ∧ Upd no w w' := by
  refine F10.calls ?_
  unfold F10
  have hcb := Gs.cells_bd r c
  have hF : Upd no w w := Fr.refl _ _ _
  refine box_intro (by rfl) (fun b1 w1 e1 h_b1 _ U1 => ?_)
  have ge_b1 : w.heap.size ≤ b1 := by have := hF.size; omega
  replace hF := hF.go0 U1
  clear e1
  refine alloc_intro (cs := #[.int .i64 0, .int .i64 0, .slice none 0 0, .int .i64 0]) (by kernel_rfl) (fun b2 w2 e2 h_b2 _ U2 => ?_)
  have ne_b1_b2 : b1 ≠ b2 := by have := lt_get h_b1; omega
  have ge_b2 : w.heap.size ≤ b2 := by have := hF.size; omega
  replace h_b1 := U2.get0 h_b1
  replace hF := hF.go0 U2
  clear e2
  refine opv_run (ldA (n := 2) (by kernel_rfl) h_b1 (by first | exact Nat.le_of_ble_eq_true rfl | (simp; done) | omega) (by rfl)) ?_
  refine callF_val (c_greenscreenref02_Cells) (fun w3 U3 => ?_)
  replace h_b1 := U3.get0 h_b1
  replace h_b2 := U3.get0 h_b2
  replace hF := hF.go0 U3
  refine opv_F (eqI _ _ _ _ _) (hz) ?_
  refine condf ?_
  refine drawn_S (S := no) (fun w4 U4 => ?_)
  replace h_b1 := U4.get0 h_b1
  replace h_b2 := U4.get0 h_b2
  replace hF := hF.go0 U4
  refine qop_run (fun w' hw' => by have h_b1 := hw'.get0 h_b1; exact (ldA (n := 2) (by kernel_rfl) h_b1 (by first | exact Nat.le_of_ble_eq_true rfl | (simp; done) | omega) (by rfl))) ?_
  refine ext_intro (fun w5 U5 => ?_)
  replace h_b1 := U5.get0 h_b1
  replace h_b2 := U5.get0 h_b2
  replace hF := hF.go0 U5
  refine lop_i ?_
  refine makeRows (e := 36) (bytes := 5) (z := Gs.zc) Gs.encC (by kernel_rfl) (by kernel_rfl) (by omega) (by omega) (fun b6 w6 e6 own_b6 _ U6 => ?_)
  have ne_b1_b6 : b1 ≠ b6 := by have := lt_get h_b1; omega
  have ne_b2_b6 : b2 ≠ b6 := by have := lt_get h_b2; omega
  have ge_b6 : w.heap.size ≤ b6 := by have := hF.size; omega
  replace own_b6 := own_b6.mono (B' := w.heap.size) (by have := hF.size; omega)
  replace h_b1 := U6.get0 h_b1
  replace h_b2 := U6.get0 h_b2
  replace hF := hF.go0 U6
  clear e6
  refine ⟨U6, ?_⟩
  refine qop_run (fun w' hw' => (build_eq (l := [(0, 2), (2, 1), (3, 1)]) (z := #[.int .i64 0, .int .i64 0, .slice none 0 0, .int .i64 0]) (by kernel_rfl) (by first | (simp [fillL, splice, repL, Value.cells]; done) | (simp [fillL, splice, repL, Value.cells]; rfl)))) ?_
  refine ext_intro (fun w7 U7 => ?_)
  replace own_b6 := own_b6.upd0 U7
  replace h_b1 := U7.get0 h_b1
  replace h_b2 := U7.get0 h_b2
  replace hF := hF.go0 U7
  refine store_intro (n := 4) (by kernel_rfl) (by rfl) (by first | rfl | (simp [Value.cells, Value.oneCell', Gs.cv]; done)) h_b2 (by first | exact Nat.le_of_ble_eq_true rfl | (simp; done) | omega) (by first | (simp; rfl) | rfl) (fun w8 N8 _ U8 => ?_)
  replace own_b6 := own_b6.upd1 U8 (by first | assumption | exact Own.ne_blk own_b6 (by assumption) (by decide) | exact Own.not_loop own_b6 (by assumption) (by assumption) | exact Own.not_def own_b6 (by assumption))
  replace h_b1 := U8.get1 h_b1 ne_b1_b2
  replace h_b2 := N8
  replace hF := hF.go1 U8 ge_b2
  refine ext_intro (fun w9 U9 => ?_)
  replace own_b6 := own_b6.upd0 U9
  replace h_b1 := U9.get0 h_b1
  replace h_b2 := U9.get0 h_b2
  replace hF := hF.go0 U9
  refine ldv_run (ldA (n := 4) (by kernel_rfl) h_b2 (by first | exact Nat.le_of_ble_eq_true rfl | simp | omega) (by rfl)) ?_
  exact ⟨_, rfl, _, rfl, by assumption, hF⟩

end Go.Proofs.YtojcbhkhfcddnaaDoor
