/-
  Contracts of functions of the program, walked over their shallow forms. No condition but the ones that each states.
-/
import Derived.Test.YtjdoakbadehicaaGreatDoorPF
import Derived.Test.YtjdoakbadehicaaGreatDoorGa
import Derived.Test.YtjdoakbadehicaaGreatDoorTypedA
namespace Go.Proofs.YtjdoakbadehicaaGreatDoor
open Go Go.Sh
set_option linter.unusedVariables false
set_option maxRecDepth 100000


/-- (*greenscreen/lock.Lock).turn -/
theorem c_lock_turn {bk : Nat} {st why tn : Int} {x0 x4 x5 : Value} {w : World} (h_bk : w.heap[bk]? = some (.cells #[x0, .int .i64 st, .int .i64 why, .int .i64 tn, x4, x5] 95 (0, 0))) {s2 y2 : Int} :
    Calls Tryz.prog 46 #[.pointer (some ⟨bk, 1, none⟩), .int .i64 s2, .int .i64 y2] w fun e w' => ∃ v, e = .returned v ∧ ∃ t' : Int, w'.heap[bk]? = some (.cells #[x0, .int .i64 s2, .int .i64 y2, .int .i64 t', x4, x5] 95 (0, 0)) ∧ Upd (· = bk) w w' := by
  refine F46.calls ?_
  unfold F46
  have lt_h_bk := lt_get h_bk
  have hF : Upd (· = bk) w w := Fr.refl _ _ _
  refine join_cut (fun g w' => ∃ (t' : Int), (w'.heap[bk]? = some (.cells #[x0, .int .i64 st, .int .i64 why, .int .i64 t', x4, x5] 95 (0, 0))) ∧ (Upd (· = bk) w w')) (fun J1 hJ1 => ?_) (fun gJ1 wJ1 hI => ?_)
  · refine nilckp ?_
    refine opv_run (fieldAt_eq (off := 0) (by kernel_rfl)) ?_
    refine opv_run (ldC (by kernel_rfl) h_bk (by rfl)) ?_
    refine opv_dec (neI _ _ _ _ _) (fun h1 => ?_) (fun h1 => ?_)
    · refine condt ?_
      refine nilckp ?_
      refine opv_run (fieldAt_eq (off := 2) (by kernel_rfl)) ?_
      refine opv_run (ldC (by kernel_rfl) h_bk (by rfl)) ?_
      first | refine opv_run (add_i64 _ (by omega)) ?_ | refine opv_run (addI _ _ _ _) ?_
      refine nilckp ?_
      refine opv_run (fieldAt_eq (off := 2) (by kernel_rfl)) ?_
      refine store1_intro (by kernel_rfl) rfl rfl h_bk (by first | exact Nat.le_of_ble_eq_true rfl | (simp; done) | omega | (simp [vals_length, *]; done) | (simp [vals_length, *]; omega)) (by first | (simp [vals_set]; rfl) | rfl) (fun w2 N2 _ U2 => ?_)
      replace h_bk := N2
      replace hF := hF.go U2 (fun i _ h => h)
      refine hJ1 _ _ ?_
      exact ⟨_, h_bk, hF⟩
    · refine condf ?_
      refine hJ1 _ _ ?_
      exact ⟨_, h_bk, hF⟩
  · obtain ⟨t', h_bk, hF⟩ := hI
    refine nilckp ?_
    refine opv_run (fieldAt_eq (off := 0) (by kernel_rfl)) ?_
    refine store1_intro (by kernel_rfl) rfl rfl h_bk (by first | exact Nat.le_of_ble_eq_true rfl | (simp; done) | omega | (simp [vals_length, *]; done) | (simp [vals_length, *]; omega)) (by first | (simp [vals_set]; rfl) | rfl) (fun w3 N3 _ U3 => ?_)
    replace h_bk := N3
    replace hF := hF.go U3 (fun i _ h => h)
    refine nilckp ?_
    refine opv_run (fieldAt_eq (off := 1) (by kernel_rfl)) ?_
    refine store1_intro (by kernel_rfl) rfl rfl h_bk (by first | exact Nat.le_of_ble_eq_true rfl | (simp; done) | omega | (simp [vals_length, *]; done) | (simp [vals_length, *]; omega)) (by first | (simp [vals_set]; rfl) | rfl) (fun w4 N4 _ U4 => ?_)
    replace h_bk := N4
    replace hF := hF.go U4 (fun i _ h => h)
    exact ⟨_, rfl, t', h_bk, hF⟩

/-- (*greenscreen/lock.Lock).Open -/
theorem c_lock_Open {bk : Nat} {st why tn : Int} {x0 x4 x5 : Value} {w : World} (h_bk : w.heap[bk]? = some (.cells #[x0, .int .i64 st, .int .i64 why, .int .i64 tn, x4, x5] 95 (0, 0))) :
    Calls Tryz.prog 17 #[.pointer (some ⟨bk, 1, none⟩)] w fun e w' => ∃ v, e = .returned v ∧ ∃ t' : Int, w'.heap[bk]? = some (.cells #[x0, .int .i64 1, .int .i64 0, .int .i64 t', x4, x5] 95 (0, 0)) ∧ Upd (· = bk) w w' := by
  refine F17.calls ?_
  unfold F17
  have lt_h_bk := lt_get h_bk
  have hF : Upd (· = bk) w w := Fr.refl _ _ _
  refine callF_ex (c_lock_turn h_bk (s2 := 1) (y2 := 0)) (fun v1 w1 D1 => ?_)
  obtain ⟨t3, N1, U1⟩ := D1
  replace h_bk := N1
  replace hF := hF.go U1 (fun i _ h => h)
  exact ⟨_, rfl, _, h_bk, hF⟩

/-- (*greenscreen/lock.Lock).May -/
theorem c_lock_May {bk : Nat} {st why tn : Int} {x0 x4 x5 : Value} {w : World} (h_bk : w.heap[bk]? = some (.cells #[x0, .int .i64 st, .int .i64 why, .int .i64 tn, x4, x5] 95 (0, 0))) :
    Calls Tryz.prog 28 #[.pointer (some ⟨bk, 1, none⟩)] w fun e w' => e = .returned (.int .i64 (if st = 1 then 0 else 40)) ∧ Upd no w w' := by
  refine F28.calls ?_
  unfold F28
  have lt_h_bk := lt_get h_bk
  have hF : Upd no w w := Fr.refl _ _ _
  refine nilckp ?_
  refine opv_run (fieldAt_eq (off := 0) (by kernel_rfl)) ?_
  refine opv_run (ldC (by kernel_rfl) h_bk (by rfl)) ?_
  refine opv_dec (neI _ _ _ _ _) (fun h1 => ?_) (fun h1 => ?_)
  · refine condt ?_
    first | exact ⟨congrArg (fun q => Ending.returned (.int .i64 q)) (if_neg (by assumption)).symm, hF⟩ | exact ⟨congrArg (fun q => Ending.returned (.int .i64 q)) (if_pos (Classical.not_not.1 (by assumption))).symm, hF⟩
  · refine condf ?_
    first | exact ⟨congrArg (fun q => Ending.returned (.int .i64 q)) (if_neg (by assumption)).symm, hF⟩ | exact ⟨congrArg (fun q => Ending.returned (.int .i64 q)) (if_pos (Classical.not_not.1 (by assumption))).symm, hF⟩

/-- (*greenscreen/lock.Lock).Send -/
theorem c_lock_Send {bk : Nat} {st why tn : Int} {x0 x4 x5 : Value} {w : World} (h_bk : w.heap[bk]? = some (.cells #[x0, .int .i64 st, .int .i64 why, .int .i64 tn, x4, x5] 95 (0, 0))) (hs : st = 1) :
    Calls Tryz.prog 83 #[.pointer (some ⟨bk, 1, none⟩)] w fun e w' => ∃ v, e = .returned v ∧ v = .int .i64 0 ∧ ∃ t' : Int, w'.heap[bk]? = some (.cells #[x0, .int .i64 2, .int .i64 0, .int .i64 t', x4, x5] 95 (0, 0)) ∧ Upd (· = bk) w w' := by
  refine F83.calls ?_
  unfold F83
  have lt_h_bk := lt_get h_bk
  have hF : Upd (· = bk) w w := Fr.refl _ _ _
  refine callF_val (c_lock_May h_bk) (fun w1 U1 => ?_)
  replace h_bk := U1.get0 h_bk
  replace hF := hF.go0 U1
  rw [if_pos hs]
  refine opv_F (neI _ _ _ _ _) (fun h => h rfl) ?_
  refine condf ?_
  refine callF_ex (c_lock_turn h_bk (s2 := 2) (y2 := 0)) (fun v2 w2 D2 => ?_)
  obtain ⟨t10, N2, U2⟩ := D2
  replace h_bk := N2
  replace hF := hF.go U2 (fun i _ h => h)
  exact ⟨_, rfl, rfl, _, h_bk, hF⟩

/-- (*greenscreen/lock.Lock).Fail -/
theorem c_lock_Fail0 {bk : Nat} {st why tn : Int} {x0 x4 x5 : Value} {w : World} (h_bk : w.heap[bk]? = some (.cells #[x0, .int .i64 st, .int .i64 why, .int .i64 tn, x4, x5] 95 (0, 0))) (hs : st = 1) :
    Calls Tryz.prog 51 #[.pointer (some ⟨bk, 1, none⟩), .int .i64 0] w fun e w' => e = .returned (.int .i64 0) ∧ Upd no w w' := by
  refine F51.calls ?_
  unfold F51
  have lt_h_bk := lt_get h_bk
  have hF : Upd no w w := Fr.refl _ _ _
  refine callF_val (c_lock_May h_bk) (fun w1 U1 => ?_)
  replace h_bk := U1.get0 h_bk
  replace hF := hF.go0 U1
  rw [if_pos hs]
  refine opv_F (neI _ _ _ _ _) (fun h => h rfl) ?_
  refine condf ?_
  refine join_cut (fun g w' => (w'.heap[bk]? = some (.cells #[x0, .int .i64 st, .int .i64 why, .int .i64 tn, x4, x5] 95 (0, 0))) ∧ (Upd no w w')) (fun J1 hJ1 => ?_) (fun gJ1 wJ1 hI => ?_)
  · refine opv_F (neI _ _ _ _ _) (fun h => h rfl) ?_
    refine condf ?_
    refine hJ1 _ _ ?_
    exact ⟨h_bk, hF⟩
  · obtain ⟨h_bk, hF⟩ := hI
    exact ⟨rfl, hF⟩

/-- greenscreen/keyboard.Attention -/
theorem c_kb_Attention {b : Int} {w : World} (hb : 0 ≤ b ∧ b ≤ 255) :
    Calls Tryz.prog 9 #[.int .u8 b] w fun e w' => e = .returned (.bool (decide (¬ Gs.attS b = ⟨#[]⟩))) ∧ Upd no w w' := by
  refine F9.calls ?_
  unfold F9
  have hF : Upd no w w := Fr.refl _ _ _
  refine callF_val (c_keyboard_attention hb) (fun w1 U1 => ?_)
  replace hF := hF.go0 U1
  refine opv_run (neS _ _ _ _) ?_
  exact ⟨rfl, hF⟩

/-- greenscreen/keyboard.right -/
theorem c_kb_right {k b : Int} {w : World} (hb : 0 ≤ b ∧ b ≤ 255) :
    Calls Tryz.prog 48 #[.agg #[.int .i64 k, .int .u8 b]] w fun e w' => e = .returned (.bool (decide ((1 ≤ k ∧ k < 17) ∨ (k = 17 ∧ ¬ Gs.attS b = ⟨#[]⟩)))) ∧ Upd no w w' := by
  refine F48.calls ?_
  unfold F48
  have hF : Upd no w w := Fr.refl _ _ _
  refine box_intro (cs := #[.int .i64 k, .int .u8 b]) (by rfl) (fun b1 w1 e1 h_b1 _ U1 => ?_)
  have ge_b1 : w.heap.size ≤ b1 := by have := hF.size; omega
  replace hF := hF.go0 U1
  clear e1
  refine opv_run (fieldAt_eq (off := 0) (by kernel_rfl)) ?_
  refine opv_run (ldC (by kernel_rfl) h_b1 (by rfl)) ?_
  refine opv_dec (geq _ _ _ _) (fun h2 => ?_) (fun h2 => ?_)
  · refine gdtt ?_
    refine opv_run (fieldAt_eq (off := 0) (by kernel_rfl)) ?_
    refine gdtt ?_
    refine opv_run (ldC (by kernel_rfl) h_b1 (by rfl)) ?_
    refine gdtt ?_
    refine opv_dec (lss _ _ _ _) (fun h3 => ?_) (fun h3 => ?_)
    · refine pickt ?_
      refine gdtf ?_
      refine gdtf ?_
      refine gdtf ?_
      refine gdtf ?_
      refine gdun ?_
      refine gdun ?_
      refine gdun ?_
      refine gdtf ?_
      refine pickt ?_
      first | exact ⟨retT (.inl ⟨by omega, by omega⟩), hF⟩ | exact ⟨retF (fun h => h.elim (fun h => by omega) (fun h => by omega)), hF⟩ | exact ⟨congrArg (fun q => Ending.returned (.bool q)) (decide_eq_decide.2 ⟨fun h => .inl ⟨by omega, h⟩, fun h => h.elim (fun h => h.2) (fun h => by omega)⟩), hF⟩ | exact ⟨congrArg (fun q => Ending.returned (.bool q)) (decide_eq_decide.2 ⟨fun h => .inr ⟨by omega, h⟩, fun h => h.elim (fun h => by omega) (fun h => h.2)⟩), hF⟩
    · refine pickt ?_
      refine gdff ?_
      refine opv_run (fieldAt_eq (off := 0) (by kernel_rfl)) ?_
      refine gdff ?_
      refine opv_run (ldC (by kernel_rfl) h_b1 (by rfl)) ?_
      refine gdff ?_
      refine opv_dec (eqI _ _ _ _ _) (fun h5 => ?_) (fun h5 => ?_)
      · refine gdff ?_
        refine gdtt ?_
        refine opv_run (fieldAt_eq (off := 1) (by kernel_rfl)) ?_
        refine gdtt ?_
        refine opv_run (ldC (by kernel_rfl) h_b1 (by rfl)) ?_
        refine gdtt ?_
        refine callF_val (c_kb_Attention hb) (fun w6 U6 => ?_)
        replace h_b1 := U6.get0 h_b1
        replace hF := hF.go0 U6
        refine gdff ?_
        refine pickt ?_
        refine pickf ?_
        first | exact ⟨retT (.inl ⟨by omega, by omega⟩), hF⟩ | exact ⟨retF (fun h => h.elim (fun h => by omega) (fun h => by omega)), hF⟩ | exact ⟨congrArg (fun q => Ending.returned (.bool q)) (decide_eq_decide.2 ⟨fun h => .inl ⟨by omega, h⟩, fun h => h.elim (fun h => h.2) (fun h => by omega)⟩), hF⟩ | exact ⟨congrArg (fun q => Ending.returned (.bool q)) (decide_eq_decide.2 ⟨fun h => .inr ⟨by omega, h⟩, fun h => h.elim (fun h => by omega) (fun h => h.2)⟩), hF⟩
      · refine gdff ?_
        refine gdft ?_
        refine gdft ?_
        refine gdft ?_
        refine gdff ?_
        refine pickf ?_
        refine pickf ?_
        first | exact ⟨retT (.inl ⟨by omega, by omega⟩), hF⟩ | exact ⟨retF (fun h => h.elim (fun h => by omega) (fun h => by omega)), hF⟩ | exact ⟨congrArg (fun q => Ending.returned (.bool q)) (decide_eq_decide.2 ⟨fun h => .inl ⟨by omega, h⟩, fun h => h.elim (fun h => h.2) (fun h => by omega)⟩), hF⟩ | exact ⟨congrArg (fun q => Ending.returned (.bool q)) (decide_eq_decide.2 ⟨fun h => .inr ⟨by omega, h⟩, fun h => h.elim (fun h => by omega) (fun h => h.2)⟩), hF⟩
  · refine gdft ?_
    refine gdft ?_
    refine gdft ?_
    refine pickf ?_
    refine gdff ?_
    refine opv_run (fieldAt_eq (off := 0) (by kernel_rfl)) ?_
    refine gdff ?_
    refine opv_run (ldC (by kernel_rfl) h_b1 (by rfl)) ?_
    refine gdff ?_
    refine opv_dec (eqI _ _ _ _ _) (fun h9 => ?_) (fun h9 => ?_)
    · refine gdff ?_
      refine gdtt ?_
      refine opv_run (fieldAt_eq (off := 1) (by kernel_rfl)) ?_
      refine gdtt ?_
      refine opv_run (ldC (by kernel_rfl) h_b1 (by rfl)) ?_
      refine gdtt ?_
      refine callF_val (c_kb_Attention hb) (fun w10 U10 => ?_)
      replace h_b1 := U10.get0 h_b1
      replace hF := hF.go0 U10
      refine gdff ?_
      refine pickt ?_
      refine pickf ?_
      first | exact ⟨retT (.inl ⟨by omega, by omega⟩), hF⟩ | exact ⟨retF (fun h => h.elim (fun h => by omega) (fun h => by omega)), hF⟩ | exact ⟨congrArg (fun q => Ending.returned (.bool q)) (decide_eq_decide.2 ⟨fun h => .inl ⟨by omega, h⟩, fun h => h.elim (fun h => h.2) (fun h => by omega)⟩), hF⟩ | exact ⟨congrArg (fun q => Ending.returned (.bool q)) (decide_eq_decide.2 ⟨fun h => .inr ⟨by omega, h⟩, fun h => h.elim (fun h => by omega) (fun h => h.2)⟩), hF⟩
    · refine gdff ?_
      refine gdft ?_
      refine gdft ?_
      refine gdft ?_
      refine gdff ?_
      refine pickf ?_
      refine pickf ?_
      first | exact ⟨retT (.inl ⟨by omega, by omega⟩), hF⟩ | exact ⟨retF (fun h => h.elim (fun h => by omega) (fun h => by omega)), hF⟩ | exact ⟨congrArg (fun q => Ending.returned (.bool q)) (decide_eq_decide.2 ⟨fun h => .inl ⟨by omega, h⟩, fun h => h.elim (fun h => h.2) (fun h => by omega)⟩), hF⟩ | exact ⟨congrArg (fun q => Ending.returned (.bool q)) (decide_eq_decide.2 ⟨fun h => .inr ⟨by omega, h⟩, fun h => h.elim (fun h => by omega) (fun h => h.2)⟩), hF⟩

/-- greenscreen/attr.Numeric -/
theorem c_attr_Numeric {x : Int} {w : World} (hx : 0 ≤ x ∧ x ≤ 255) :
    Calls Tryz.prog 118 #[.int .u8 x] w fun e w' => e = .returned (.bool (decide (x / 16 % 2 = 1))) ∧ Upd no w w' := by
  refine F118.calls ?_
  unfold F118
  have hF : Upd no w w := Fr.refl _ _ _
  refine opv_run (and8_16 _ (by omega)) ?_
  refine opv_run (neI _ _ _ _ _) ?_
  first | exact ⟨retB (by omega), hF⟩ | exact ⟨retT (by omega), hF⟩ | exact ⟨retF (by omega), hF⟩

/-- greenscreen/caret.by -/
theorem c_caret_by {r c cur : Int} {A : Option Addr} {n cp bp B0 : Nat} {cs : List Gs.Cell} {w : World} (h_bp : w.heap[bp]? = some (.cells #[.int .i64 r, .int .i64 c, .slice A n cp, .int .i64 cur] 91 (0, 0))) (own_p : Own B0 w 37 5 (.slice A n cp) (rows Gs.cv cs)) (hn : n = cs.length) {i j : Int} (hp : 0 < n) (hN : Gs.cellsN r c = n) (hb : n ≤ 4096)  :
    Calls Tryz.prog 125 #[.pointer (some ⟨bp, 0, none⟩), .int .i64 i, .int .i64 j] w fun e w' => e = .returned (.int .i64 ((i + j) % (n : Int))) ∧ Upd no w w' := by
  refine F125.calls ?_
  unfold F125
  have lt_h_bp := lt_get h_bp
  have lt_own_p := Own.lt own_p
  have hF : Upd no w w := Fr.refl _ _ _
  refine callF_val (c_Plane_Size h_bp own_p hn) (fun w1 U1 => ?_)
  replace own_p := own_p.upd0 U1
  replace h_bp := U1.get0 h_bp
  replace hF := hF.go0 U1
  refine callF_val (c_addr_Move (i := i) (j := j)) (fun w2 U2 => ?_)
  replace own_p := own_p.upd0 U2
  replace h_bp := U2.get0 h_bp
  replace hF := hF.go0 U2
  rw [hN, Gs.moveN_at (by omega)]
  exact ⟨rfl, hF⟩

/-- greenscreen/caret.to -/
theorem c_caret_to {r c cur : Int} {A : Option Addr} {n cp bp B0 : Nat} {cs : List Gs.Cell} {w : World} (h_bp : w.heap[bp]? = some (.cells #[.int .i64 r, .int .i64 c, .slice A n cp, .int .i64 cur] 91 (0, 0))) (own_p : Own B0 w 37 5 (.slice A n cp) (rows Gs.cv cs)) (hn : n = cs.length) {i : Int} (hi : 0 ≤ i ∧ i < cs.length) :
    Calls Tryz.prog 124 #[.pointer (some ⟨bp, 0, none⟩), .int .i64 i] w fun e w' => ∃ v, e = .returned v ∧ v = .int .i64 i ∧ w'.heap[bp]? = some (.cells #[.int .i64 r, .int .i64 c, .slice A n cp, .int .i64 i] 91 (0, 0)) ∧ Upd (· = bp) w w' := by
  refine F124.calls ?_
  unfold F124
  have lt_h_bp := lt_get h_bp
  have lt_own_p := Own.lt own_p
  have hF : Upd (· = bp) w w := Fr.refl _ _ _
  refine callF_ex (c_Plane_Point h_bp own_p hn (i := i)) (fun v1 w1 D1 => ?_)
  obtain ⟨rfl, N1, U1⟩ := D1
  replace own_p := own_p.upd1 U1 (by first | assumption | exact Own.ne_blk own_p (by assumption) (by decide) | exact Own.not_loop own_p (by assumption) (by assumption) | exact Own.not_def own_p (by assumption) | exact Own.not_loop own_p (by assumption) (lp3 _))
  replace h_bp := N1
  replace hF := hF.go U1 (fun i _ h => h)
  rw [if_pos hi] at h_bp
  exact ⟨_, rfl, rfl, h_bp, hF⟩

/-- greenscreen/caret.Home -/
theorem c_caret_Home {r c cur : Int} {A : Option Addr} {n cp bp B0 : Nat} {cs : List Gs.Cell} {w : World} (h_bp : w.heap[bp]? = some (.cells #[.int .i64 r, .int .i64 c, .slice A n cp, .int .i64 cur] 91 (0, 0))) (own_p : Own B0 w 37 5 (.slice A n cp) (rows Gs.cv cs)) (hn : n = cs.length) (hp : 0 < n) (hN : Gs.cellsN r c = n) (hb : n ≤ 4096) (hcw : Gs.Cws cs)  :
    Calls Tryz.prog 87 #[.pointer (some ⟨bp, 0, none⟩)] w fun e w' => ∃ v, e = .returned v ∧ v = .int .i64 (Gs.homeM cs) ∧ w'.heap[bp]? = some (.cells #[.int .i64 r, .int .i64 c, .slice A n cp, .int .i64 (Gs.homeM cs)] 91 (0, 0)) ∧ Upd (· = bp) w w' := by
  refine F87.calls ?_
  unfold F87
  have lt_h_bp := lt_get h_bp
  have lt_own_p := Own.lt own_p
  have hF : Upd (· = bp) w w := Fr.refl _ _ _
  refine callF_val (c_field_Home h_bp own_p hn hN hb hcw) (fun w1 U1 => ?_)
  replace own_p := own_p.upd0 U1
  replace h_bp := U1.get0 h_bp
  replace hF := hF.go0 U1
  refine callF_ex (c_caret_to h_bp own_p hn (i := Gs.homeM cs) (Gs.home_bd (by omega))) (fun v2 w2 D2 => ?_)
  obtain ⟨rfl, N2, U2⟩ := D2
  replace own_p := own_p.upd1 U2 (by first | assumption | exact Own.ne_blk own_p (by assumption) (by decide) | exact Own.not_loop own_p (by assumption) (by assumption) | exact Own.not_def own_p (by assumption) | exact Own.not_loop own_p (by assumption) (lp3 _))
  replace h_bp := N2
  replace hF := hF.go U2 (fun i _ h => h)
  exact ⟨_, rfl, rfl, h_bp, hF⟩

/-- greenscreen/caret.On -/
theorem c_caret_On_E {r c cur : Int} {A : Option Addr} {n cp bp B0 : Nat} {cs : List Gs.Cell} {w : World} (h_bp : w.heap[bp]? = some (.cells #[.int .i64 r, .int .i64 c, .slice A n cp, .int .i64 cur] 91 (0, 0))) (own_p : Own B0 w 37 5 (.slice A n cp) (rows Gs.cv cs)) (hn : n = cs.length) (hp : 0 < n) (hN : Gs.cellsN r c = n) (hb : n ≤ 4096) (hx : (Gs.getC cs ((cur + 1) % (n : Int))).st = false) :
    Calls Tryz.prog 74 #[.pointer (some ⟨bp, 0, none⟩)] w fun e w' => ∃ v, e = .returned v ∧ v = .int .i64 ((cur + 1) % (n : Int)) ∧ w'.heap[bp]? = some (.cells #[.int .i64 r, .int .i64 c, .slice A n cp, .int .i64 ((cur + 1) % (n : Int))] 91 (0, 0)) ∧ Upd (· = bp) w w' := by
  refine F74.calls ?_
  unfold F74
  have hnx := Gs.mod_bd (cur + 1) (N := n) (by omega)
  have lt_h_bp := lt_get h_bp
  have lt_own_p := Own.lt own_p
  have hF : Upd (· = bp) w w := Fr.refl _ _ _
  refine callF_val (c_Plane_Cursor h_bp own_p hn) (fun w1 U1 => ?_)
  replace own_p := own_p.upd0 U1
  replace h_bp := U1.get0 h_bp
  replace hF := hF.go0 U1
  refine callF_val (c_caret_by h_bp own_p hn (i := cur) (j := 1) hp hN hb) (fun w2 U2 => ?_)
  replace own_p := own_p.upd0 U2
  replace h_bp := U2.get0 h_bp
  replace hF := hF.go0 U2
  refine callF_ex (c_caret_to h_bp own_p hn (i := ((cur + 1) % (n : Int))) (by omega)) (fun v3 w3 D3 => ?_)
  obtain ⟨rfl, N3, U3⟩ := D3
  replace own_p := own_p.upd1 U3 (by first | assumption | exact Own.ne_blk own_p (by assumption) (by decide) | exact Own.not_loop own_p (by assumption) (by assumption) | exact Own.not_def own_p (by assumption) | exact Own.not_loop own_p (by assumption) (lp3 _))
  replace h_bp := N3
  replace hF := hF.go U3 (fun i _ h => h)
  refine callF_val (c_Plane_At h_bp own_p hn (i := ((cur + 1) % (n : Int)))) (fun w4 U4 => ?_)
  replace own_p := own_p.upd0 U4
  replace h_bp := U4.get0 h_bp
  replace hF := hF.go0 U4
  obtain ⟨xb, xg, xl, xc, hxe⟩ : ∃ b g l c, Gs.getC cs ((cur + 1) % (n : Int)) = ⟨b, g, false, l, c⟩ := ⟨_, _, _, _, by rw [← hx]⟩
  rw [hxe]
  refine alloc_intro (cs := (Gs.cv Gs.zc).toArray) (by kernel_rfl) (fun b5 w5 e5 h_b5 _ U5 => ?_)
  have ne_bp_b5 : bp ≠ b5 := by have := lt_get h_bp; omega
  have na_own_p_b5 := own_p.apart e5
  have ge_b5 : w.heap.size ≤ b5 := by have := hF.size; omega
  replace own_p := own_p.upd0 U5
  replace h_bp := U5.get0 h_bp
  replace hF := hF.go0 U5
  clear e5
  refine store_intro (n := 5) (cs' := (Gs.cv ⟨xb, xg, false, xl, xc⟩).toArray) (by kernel_rfl) (by rfl) (by first | rfl | (simp [Value.cells, Value.oneCell', Gs.cv, Gs.fv, Gs.ie]; done)) h_b5 (by first | exact Nat.le_of_ble_eq_true rfl | (simp; done) | omega) (by rfl) (fun w6 N6 _ U6 => ?_)
  replace own_p := own_p.upd1 U6 na_own_p_b5
  replace h_bp := U6.get1 h_bp ne_bp_b5
  replace h_b5 := N6
  replace hF := hF.go1 U6 ge_b5
  refine opv_run (fieldAt_eq (off := 2) (by kernel_rfl)) ?_
  refine opv_run (ldC (by kernel_rfl) h_b5 (by rfl)) ?_
  refine gdft ?_
  refine gdft ?_
  refine gdft ?_
  refine pickf ?_
  refine condf ?_
  refine opv_run (fieldAt_eq (off := 2) (by kernel_rfl)) ?_
  refine opv_run (ldC (by kernel_rfl) h_b5 (by rfl)) ?_
  refine condf ?_
  exact ⟨_, rfl, rfl, h_bp, hF⟩

/-- greenscreen/typing.may -/
theorem c_typing_may0 {r c cur : Int} {A : Option Addr} {n cp bp B0 : Nat} {cs : List Gs.Cell} {w : World} (h_bp : w.heap[bp]? = some (.cells #[.int .i64 r, .int .i64 c, .slice A n cp, .int .i64 cur] 91 (0, 0))) (own_p : Own B0 w 37 5 (.slice A n cp) (rows Gs.cv cs)) (hn : n = cs.length) {x : Int} (hN : Gs.cellsN r c = n) (hb : n ≤ 4096) (hcw : Gs.Cws cs) (hof : Gs.ofB cs cur = true) (hop : Gs.openM cs cur = true) (hnm : ¬ (Gs.ofM cs cur).a / 16 % 2 = 1)  :
    Calls Tryz.prog 71 #[.pointer (some ⟨bp, 0, none⟩), .int .u8 x] w fun e w' => e = .returned (.int .i64 0) ∧ Upd no w w' := by
  refine F71.calls ?_
  unfold F71
  have lt_h_bp := lt_get h_bp
  have lt_own_p := Own.lt own_p
  have hF : Upd no w w := Fr.refl _ _ _
  refine callF_val (c_Plane_Cursor h_bp own_p hn) (fun w1 U1 => ?_)
  replace own_p := own_p.upd0 U1
  replace h_bp := U1.get0 h_bp
  replace hF := hF.go0 U1
  refine callF_val (c_field_Of h_bp own_p hn hN hb hcw (i := cur)) (fun w2 U2 => ?_)
  replace own_p := own_p.upd0 U2
  replace h_bp := U2.get0 h_bp
  replace hF := hF.go0 U2
  rw [hof]
  refine opv_run (ext_t (by rfl)) ?_
  refine opv_run (ext_t (by rfl)) ?_
  refine alloc_intro (cs := (Gs.fv Gs.zf).toArray) (by kernel_rfl) (fun b3 w3 e3 h_b3 _ U3 => ?_)
  have ne_bp_b3 : bp ≠ b3 := by have := lt_get h_bp; omega
  have na_own_p_b3 := own_p.apart e3
  have ge_b3 : w.heap.size ≤ b3 := by have := hF.size; omega
  replace own_p := own_p.upd0 U3
  replace h_bp := U3.get0 h_bp
  replace hF := hF.go0 U3
  clear e3
  refine store_intro (n := 3) (cs' := (Gs.fv (Gs.ofM cs cur)).toArray) (by kernel_rfl) (by rfl) (by first | rfl | (simp [Value.cells, Value.oneCell', Gs.cv, Gs.fv, Gs.ie]; done)) h_b3 (by first | exact Nat.le_of_ble_eq_true rfl | (simp; done) | omega) (by rfl) (fun w4 N4 _ U4 => ?_)
  replace own_p := own_p.upd1 U4 na_own_p_b3
  replace h_bp := U4.get1 h_bp ne_bp_b3
  replace h_b3 := N4
  replace hF := hF.go1 U4 ge_b3
  refine callF_val (c_Plane_Cursor h_bp own_p hn) (fun w5 U5 => ?_)
  replace own_p := own_p.upd0 U5
  replace h_bp := U5.get0 h_bp
  replace h_b3 := U5.get0 h_b3
  replace hF := hF.go0 U5
  refine callF_T (c_field_Open h_bp own_p hn hN hb hcw (i := cur)) (hop) (fun w6 U6 => ?_)
  replace own_p := own_p.upd0 U6
  replace h_bp := U6.get0 h_bp
  replace h_b3 := U6.get0 h_b3
  replace hF := hF.go0 U6
  refine opv_run (notT) ?_
  refine condf ?_
  refine gdtt ?_
  refine opv_run (fieldAt_eq (off := 2) (by kernel_rfl)) ?_
  refine gdtt ?_
  refine opv_run (ldC (by kernel_rfl) h_b3 (by rfl)) ?_
  refine gdtt ?_
  refine callF_F (c_attr_Numeric (Gs.of_a hcw cur)) (decide_eq_false hnm) (fun w7 U7 => ?_)
  replace own_p := own_p.upd0 U7
  replace h_bp := U7.get0 h_bp
  replace h_b3 := U7.get0 h_b3
  replace hF := hF.go0 U7
  refine pickt ?_
  refine gdft ?_
  refine gdft ?_
  refine gdft ?_
  refine pickf ?_
  refine condf ?_
  exact ⟨rfl, hF⟩

/-- greenscreen/typing.Put -/
theorem c_typing_Put0 {r c cur : Int} {A : Option Addr} {n cp bp B0 : Nat} {cs : List Gs.Cell} {w : World} (h_bp : w.heap[bp]? = some (.cells #[.int .i64 r, .int .i64 c, .slice A n cp, .int .i64 cur] 91 (0, 0))) (own_p : Own B0 w 37 5 (.slice A n cp) (rows Gs.cv cs)) (hn : n = cs.length) {x : Int} (hp : 0 < n) (hN : Gs.cellsN r c = n) (hb : n ≤ 4096) (hcw : Gs.Cws cs) (hxb : 0 ≤ x ∧ x ≤ 255) (hof : Gs.ofB cs cur = true) (hop : Gs.openM cs cur = true) (hnm : ¬ (Gs.ofM cs cur).a / 16 % 2 = 1) (hx : (Gs.getC (Gs.markC (Gs.setC cs cur ⟨x, false, false, (Gs.getC cs cur).l, (Gs.getC cs cur).c⟩) cur) ((cur + 1) % (n : Int))).st = false)  :
    Calls Tryz.prog 37 #[.pointer (some ⟨bp, 0, none⟩), .int .u8 x, .bool false] w fun e w' => ∃ v, e = .returned v ∧ v = .int .i64 0 ∧ w'.heap[bp]? = some (.cells #[.int .i64 r, .int .i64 c, .slice A n cp, .int .i64 ((cur + 1) % (n : Int))] 91 (0, 0)) ∧ Own B0 w' 37 5 (.slice A n cp) (rows Gs.cv (Gs.markC (Gs.setC cs cur ⟨x, false, false, (Gs.getC cs cur).l, (Gs.getC cs cur).c⟩) cur)) ∧ Upd (fun k => ownS (.slice A n cp) k ∨ k = bp) w w' := by
  refine F37.calls ?_
  unfold F37
  have hl1 : n = (Gs.setC cs cur ⟨x, false, false, (Gs.getC cs cur).l, (Gs.getC cs cur).c⟩).length := by rw [Gs.setC_len]; exact hn
  have hw1 : Gs.Cws (Gs.setC cs cur ⟨x, false, false, (Gs.getC cs cur).l, (Gs.getC cs cur).c⟩) := hcw.setC (show Gs.Cw ⟨x, false, false, (Gs.getC cs cur).l, (Gs.getC cs cur).c⟩ from hxb) _
  have hl2 : n = (Gs.markC (Gs.setC cs cur ⟨x, false, false, (Gs.getC cs cur).l, (Gs.getC cs cur).c⟩) cur).length := by rw [Gs.markC_len]; exact hl1
  have hcur := Gs.of_cur hop
  have lt_h_bp := lt_get h_bp
  have lt_own_p := Own.lt own_p
  have hF : Upd (fun k => ownS (.slice A n cp) k ∨ k = bp) w w := Fr.refl _ _ _
  refine callF_val (c_Plane_Cursor h_bp own_p hn) (fun w1 U1 => ?_)
  replace own_p := own_p.upd0 U1
  replace h_bp := U1.get0 h_bp
  replace hF := hF.go0 U1
  refine callF_val (c_typing_may0 h_bp own_p hn (x := x) hN hb hcw hof hop hnm) (fun w2 U2 => ?_)
  replace own_p := own_p.upd0 U2
  replace h_bp := U2.get0 h_bp
  replace hF := hF.go0 U2
  refine opv_F (neI _ _ _ _ _) (fun h => h rfl) ?_
  refine condf ?_
  refine callF_val (c_Plane_At h_bp own_p hn (i := cur)) (fun w3 U3 => ?_)
  replace own_p := own_p.upd0 U3
  replace h_bp := U3.get0 h_bp
  replace hF := hF.go0 U3
  refine alloc_intro (cs := (Gs.cv Gs.zc).toArray) (by kernel_rfl) (fun b4 w4 e4 h_b4 _ U4 => ?_)
  have ne_bp_b4 : bp ≠ b4 := by have := lt_get h_bp; omega
  have na_own_p_b4 := own_p.apart e4
  have ge_b4 : w.heap.size ≤ b4 := by have := hF.size; omega
  replace own_p := own_p.upd0 U4
  replace h_bp := U4.get0 h_bp
  replace hF := hF.go0 U4
  clear e4
  refine store_intro (n := 5) (cs' := (Gs.cv (Gs.getC cs cur)).toArray) (by kernel_rfl) (by rfl) (by first | rfl | (simp [Value.cells, Value.oneCell', Gs.cv, Gs.fv, Gs.ie]; done)) h_b4 (by first | exact Nat.le_of_ble_eq_true rfl | (simp; done) | omega) (by rfl) (fun w5 N5 _ U5 => ?_)
  replace own_p := own_p.upd1 U5 na_own_p_b4
  replace h_bp := U5.get1 h_bp ne_bp_b4
  replace h_b4 := N5
  replace hF := hF.go1 U5 ge_b4
  refine join_cut (fun g w' => (w'.heap[bp]? = some (.cells #[.int .i64 r, .int .i64 c, .slice A n cp, .int .i64 cur] 91 (0, 0))) ∧ (Own B0 w' 37 5 (.slice A n cp) (rows Gs.cv cs)) ∧ (w'.heap[b4]? = some (.cells (Gs.cv (Gs.getC cs cur)).toArray 37 (0, 0))) ∧ (Upd (fun k => ownS (.slice A n cp) k ∨ k = bp) w w')) (fun J1 hJ1 => ?_) (fun gJ1 wJ1 hI => ?_)
  · refine condf ?_
    refine hJ1 _ _ ?_
    exact ⟨h_bp, own_p, h_b4, hF⟩
  · obtain ⟨h_bp, own_p, h_b4, hF⟩ := hI
    refine opv_run (fieldAt_eq (off := 3) (by kernel_rfl)) ?_
    refine opv_run (ldC (by kernel_rfl) h_b4 (by rfl)) ?_
    refine opv_run (fieldAt_eq (off := 4) (by kernel_rfl)) ?_
    refine opv_run (ldC (by kernel_rfl) h_b4 (by rfl)) ?_
    refine opv_run (build_eq (l := [(0, 1), (1, 1), (2, 1), (3, 1), (4, 1)]) (z := #[.int .u8 0, .bool false, .bool false, .int .u8 0, .int .u8 0]) (cs := Gs.cv ⟨x, false, false, (Gs.getC cs cur).l, (Gs.getC cs cur).c⟩) (by kernel_rfl) (by rfl)) ?_
    refine callF_ex (c_Plane_Set h_bp own_p hn (i := cur) (x := ⟨x, false, false, (Gs.getC cs cur).l, (Gs.getC cs cur).c⟩)) (fun v7 w7 D7 => ?_)
    obtain ⟨rfl, N7, U7⟩ := D7
    have own_p_o := own_p
    replace h_bp := U7.get h_bp (fun h => by first | (have := Own.ge own_p_o h; omega) | exact Own.ne_blk own_p_o h_bp (by decide) _ h rfl | exact Own.not_loop own_p_o h_bp (by assumption) _ h rfl | exact Own.not_def own_p_o h_bp _ h rfl | simp_all)
    replace own_p := N7
    replace h_b4 := U7.get h_b4 (fun h => na_own_p_b4 _ h rfl)
    replace hF := hF.go U7 (fun i h hs => by first | exact hs | exact .inl hs | exact .inr hs | (have := (Own.ge own_p_o hs).1; omega))
    clear own_p_o
    refine callF_ex (c_field_Mark h_bp own_p hl1 hN hb hw1 (i := cur)) (fun v8 w8 D8 => ?_)
    obtain ⟨rfl, N8, U8⟩ := D8
    have own_p_o := own_p
    replace h_bp := U8.get h_bp (fun h => by first | (have := Own.ge own_p_o h; omega) | exact Own.ne_blk own_p_o h_bp (by decide) _ h rfl | exact Own.not_loop own_p_o h_bp (by assumption) _ h rfl | exact Own.not_def own_p_o h_bp _ h rfl | simp_all)
    replace own_p := N8
    replace h_b4 := U8.get h_b4 (fun h => na_own_p_b4 _ h rfl)
    replace hF := hF.go U8 (fun i h hs => by first | exact hs | exact .inl hs | exact .inr hs | (have := (Own.ge own_p_o hs).1; omega))
    clear own_p_o
    refine callF_ex (c_caret_On_E h_bp own_p hl2 hp hN hb hx) (fun v9 w9 D9 => ?_)
    obtain ⟨rfl, N9, U9⟩ := D9
    replace own_p := own_p.upd1 U9 (by first | assumption | exact Own.ne_blk own_p (by assumption) (by decide) | exact Own.not_loop own_p (by assumption) (by assumption) | exact Own.not_def own_p (by assumption) | exact Own.not_loop own_p (by assumption) (lp3 _))
    replace h_b4 := U9.get1 h_b4 (Ne.symm ne_bp_b4)
    replace h_bp := N9
    replace hF := hF.go U9 (fun i _ h => .inr h)
    exact ⟨_, rfl, rfl, h_bp, own_p, hF⟩

/-- (*greenscreen/screen.Screen).Plane -/
theorem c_scr_Plane {r0 c0 r1 c1 wh : Int} {bs : Nat} {bp : Nat} {w : World} (h_bs : w.heap[bs]? = some (.cells #[.int .i64 r0, .int .i64 c0, .int .i64 r1, .int .i64 c1, .int .i64 wh, .pointer (some ⟨bp, 0, none⟩)] 89 (0, 0)))  :
    Calls Tryz.prog 13 #[.pointer (some ⟨bs, 0, none⟩)] w fun e w' => e = .returned (.pointer (some ⟨bp, 0, none⟩)) ∧ Upd no w w' := by
  refine F13.calls ?_
  unfold F13
  have lt_h_bs := lt_get h_bs
  have hF : Upd no w w := Fr.refl _ _ _
  refine nilckp ?_
  refine opv_run (fieldAt_eq (off := 5) (by kernel_rfl)) ?_
  refine opv_run (ldC (by kernel_rfl) h_bs (by rfl)) ?_
  exact ⟨rfl, hF⟩

/-- (*greenscreen/screen.Screen).renew -/
theorem c_scr_renew0 {r0 c0 r1 c1 wh : Int} {bs : Nat} {pv : Value} {w : World} (h_bs : w.heap[bs]? = some (.cells #[.int .i64 r0, .int .i64 c0, .int .i64 r1, .int .i64 c1, .int .i64 wh, pv] 89 (0, 0))) (hz : (Gs.cellsN r0 c0) ≠ 0) :
    Calls Tryz.prog 82 #[.pointer (some ⟨bs, 0, none⟩), .int .i64 0] w fun e w' => ∃ v, e = .returned v ∧ ∃ bp g, w'.heap[bs]? = some (.cells #[.int .i64 r0, .int .i64 c0, .int .i64 r1, .int .i64 c1, .int .i64 0, .pointer (some ⟨bp, 0, none⟩)] 89 (0, 0)) ∧ w.heap.size ≤ bp ∧ w'.heap[bp]? = some (.cells #[.int .i64 r0, .int .i64 c0, .slice (some ⟨g, 0, none⟩) (Gs.cellsN r0 c0).toNat (Gs.cellsN r0 c0).toNat, .int .i64 0] 91 (0, 0)) ∧ Own w.heap.size w' 37 5 (.slice (some ⟨g, 0, none⟩) (Gs.cellsN r0 c0).toNat (Gs.cellsN r0 c0).toNat) (rows Gs.cv (List.replicate (Gs.cellsN r0 c0).toNat Gs.zc)) ∧ Upd (· = bs) w w' := by
  refine F82.calls ?_
  unfold F82
  have lt_h_bs := lt_get h_bs
  have hF : Upd (· = bs) w w := Fr.refl _ _ _
  refine nilckp ?_
  refine opv_run (fieldAt_eq (off := 4) (by kernel_rfl)) ?_
  refine store1_intro (by kernel_rfl) rfl rfl h_bs (by first | exact Nat.le_of_ble_eq_true rfl | (simp; done) | omega | (simp [vals_length, *]; done) | (simp [vals_length, *]; omega)) (by first | (simp [vals_set]; rfl) | rfl) (fun w1 N1 _ U1 => ?_)
  replace h_bs := N1
  replace hF := hF.go U1 (fun i _ h => h)
  refine nilckp ?_
  refine opv_run (fieldAt_eq (off := 0) (by kernel_rfl)) ?_
  refine opv_run (index_arrp (n := 2) (m := 2) (by kernel_rfl) (by omega) (by omega)) ?_
  refine opv_run (ldA (n := 2) (by kernel_rfl) h_bs (by first | exact Nat.le_of_ble_eq_true rfl | (simp; done) | omega) (by rfl)) ?_
  refine callF_ex (c_plane_New1 (r := r0) (c := c0) hz) (fun v2 w2 D2 => ?_)
  obtain ⟨bp, g, rfl, gbp, h_bp, own_p, U2⟩ := D2
  have ne_bs_bp : bs ≠ bp := by have := lt_get h_bs; omega
  have ge_bp : w.heap.size ≤ bp := by have := hF.size; omega
  have nx2_h_bs_own_p : ¬ ownS _ bs := fun h => by have := (Own.ge own_p h).1; have := lt_get h_bs; omega
  replace own_p := own_p.mono (B' := w.heap.size) hF.size
  replace h_bs := U2.get0 h_bs
  replace hF := hF.go0 U2
  refine opv_run (ext_t (by rfl)) ?_
  refine opv_run (ext_t (by rfl)) ?_
  refine nilckp ?_
  refine opv_run (fieldAt_eq (off := 5) (by kernel_rfl)) ?_
  refine store1_intro (by kernel_rfl) rfl rfl h_bs (by first | exact Nat.le_of_ble_eq_true rfl | (simp; done) | omega | (simp [vals_length, *]; done) | (simp [vals_length, *]; omega)) (by first | (simp [vals_set]; rfl) | rfl) (fun w3 N3 _ U3 => ?_)
  replace own_p := own_p.upd1 U3 (by first | assumption | exact Own.ne_blk own_p (by assumption) (by decide) | exact Own.not_loop own_p (by assumption) (by assumption) | exact Own.not_def own_p (by assumption) | exact Own.not_loop own_p (by assumption) (lp3 _))
  replace h_bp := U3.get1 h_bp (Ne.symm ne_bs_bp)
  replace h_bs := N3
  replace hF := hF.go U3 (fun i _ h => h)
  exact ⟨_, rfl, bp, g, h_bs, ge_bp, h_bp, own_p, hF⟩

/-- (*greenscreen/screen.Screen).Clear -/
theorem c_scr_Clear {r0 c0 r1 c1 wh : Int} {bs : Nat} {pv : Value} {w : World} (h_bs : w.heap[bs]? = some (.cells #[.int .i64 r0, .int .i64 c0, .int .i64 r1, .int .i64 c1, .int .i64 wh, pv] 89 (0, 0))) (hz : (Gs.cellsN r0 c0) ≠ 0) :
    Calls Tryz.prog 44 #[.pointer (some ⟨bs, 0, none⟩)] w fun e w' => ∃ v, e = .returned v ∧ ∃ bp g, w'.heap[bs]? = some (.cells #[.int .i64 r0, .int .i64 c0, .int .i64 r1, .int .i64 c1, .int .i64 0, .pointer (some ⟨bp, 0, none⟩)] 89 (0, 0)) ∧ w.heap.size ≤ bp ∧ w'.heap[bp]? = some (.cells #[.int .i64 r0, .int .i64 c0, .slice (some ⟨g, 0, none⟩) (Gs.cellsN r0 c0).toNat (Gs.cellsN r0 c0).toNat, .int .i64 0] 91 (0, 0)) ∧ Own w.heap.size w' 37 5 (.slice (some ⟨g, 0, none⟩) (Gs.cellsN r0 c0).toNat (Gs.cellsN r0 c0).toNat) (rows Gs.cv (List.replicate (Gs.cellsN r0 c0).toNat Gs.zc)) ∧ Upd (· = bs) w w' := by
  refine F44.calls ?_
  unfold F44
  have lt_h_bs := lt_get h_bs
  have hF : Upd (· = bs) w w := Fr.refl _ _ _
  refine callF_ex (c_scr_renew0 h_bs hz) (fun v1 w1 D1 => ?_)
  obtain ⟨bp, g, N1, gbp, h_bp, own_p, U1⟩ := D1
  have ne_bs_bp : bs ≠ bp := by have := lt_get h_bs; omega
  have ge_bp : w.heap.size ≤ bp := by have := hF.size; omega
  have nx1_h_bs_own_p : ¬ ownS _ bs := fun h => by have := (Own.ge own_p h).1; have := lt_get h_bs; omega
  replace own_p := own_p.mono (B' := w.heap.size) hF.size
  replace h_bs := N1
  replace hF := hF.go U1 (fun i _ h => h)
  exact ⟨_, rfl, bp, g, h_bs, ge_bp, h_bp, own_p, hF⟩

/-- greenscreen/screen.New -/
theorem c_scr_New1 {r0 c0 r1 c1 : Int} {w : World} (hz : (Gs.cellsN r0 c0) ≠ 0) (hz1 : Gs.cellsN r1 c1 ≠ 0) :
    Calls Tryz.prog 12 #[.agg #[.int .i64 r0, .int .i64 c0], .agg #[.int .i64 r1, .int .i64 c1]] w fun e w' => ∃ v, e = .returned v ∧ ∃ bs bp g, v = .tuple #[.pointer (some ⟨bs, 0, none⟩), .int .i64 0] ∧ w.heap.size ≤ bs ∧ w.heap.size ≤ bp ∧ w'.heap[bs]? = some (.cells #[.int .i64 r0, .int .i64 c0, .int .i64 r1, .int .i64 c1, .int .i64 0, .pointer (some ⟨bp, 0, none⟩)] 89 (0, 0)) ∧ w'.heap[bp]? = some (.cells #[.int .i64 r0, .int .i64 c0, .slice (some ⟨g, 0, none⟩) (Gs.cellsN r0 c0).toNat (Gs.cellsN r0 c0).toNat, .int .i64 0] 91 (0, 0)) ∧ Own w.heap.size w' 37 5 (.slice (some ⟨g, 0, none⟩) (Gs.cellsN r0 c0).toNat (Gs.cellsN r0 c0).toNat) (rows Gs.cv (List.replicate (Gs.cellsN r0 c0).toNat Gs.zc)) ∧ Upd no w w' := by
  refine F12.calls ?_
  unfold F12
  have hF : Upd no w w := Fr.refl _ _ _
  refine box_intro (cs := #[.int .i64 r0, .int .i64 c0]) (by rfl) (fun b1 w1 e1 h_b1 _ U1 => ?_)
  have ge_b1 : w.heap.size ≤ b1 := by have := hF.size; omega
  replace hF := hF.go0 U1
  clear e1
  refine box_intro (cs := #[.int .i64 r1, .int .i64 c1]) (by rfl) (fun b2 w2 e2 h_b2 _ U2 => ?_)
  have ne_b1_b2 : b1 ≠ b2 := by have := lt_get h_b1; omega
  have ge_b2 : w.heap.size ≤ b2 := by have := hF.size; omega
  replace h_b1 := U2.get0 h_b1
  replace hF := hF.go0 U2
  clear e2
  refine opv_run (ldA (n := 2) (cs' := #[.int .i64 r0, .int .i64 c0]) (by kernel_rfl) h_b1 (by first | exact Nat.le_of_ble_eq_true rfl | (simp; done) | omega) (by rfl)) ?_
  refine callF_val (c_addr_Cells (r := r0) (c := c0)) (fun w3 U3 => ?_)
  replace h_b1 := U3.get0 h_b1
  replace h_b2 := U3.get0 h_b2
  replace hF := hF.go0 U3
  refine opv_F (eqI _ _ _ _ _) (hz) ?_
  refine gdff ?_
  refine opv_run (ldA (n := 2) (cs' := #[.int .i64 r1, .int .i64 c1]) (by kernel_rfl) h_b2 (by first | exact Nat.le_of_ble_eq_true rfl | (simp; done) | omega) (by rfl)) ?_
  refine gdff ?_
  refine callF_val (c_addr_Cells (r := r1) (c := c1)) (fun w4 U4 => ?_)
  replace h_b1 := U4.get0 h_b1
  replace h_b2 := U4.get0 h_b2
  replace hF := hF.go0 U4
  refine gdff ?_
  refine opv_F (eqI _ _ _ _ _) (hz1) ?_
  refine pickf ?_
  refine condf ?_
  refine opv_run (ldA (n := 2) (cs' := #[.int .i64 r0, .int .i64 c0]) (by kernel_rfl) h_b1 (by first | exact Nat.le_of_ble_eq_true rfl | (simp; done) | omega) (by rfl)) ?_
  refine opv_run (ldA (n := 2) (cs' := #[.int .i64 r1, .int .i64 c1]) (by kernel_rfl) h_b2 (by first | exact Nat.le_of_ble_eq_true rfl | (simp; done) | omega) (by rfl)) ?_
  refine opv_run (build_arr (n := 2) (m := 2) (z := #[.int .i64 0, .int .i64 0, .int .i64 0, .int .i64 0]) (by kernel_rfl) (by kernel_rfl) (by first | (simp [fillL, splice, repL, Value.cells]; done) | (simp [fillL, splice, repL, Value.cells]; rfl))) ?_
  refine opv_run (build_eq (l := [(0, 4), (4, 1), (5, 1)]) (z := #[.int .i64 0, .int .i64 0, .int .i64 0, .int .i64 0, .int .i64 0, .pointer none]) (cs := [.int .i64 r0, .int .i64 c0, .int .i64 r1, .int .i64 c1, .int .i64 0, .pointer none]) (by kernel_rfl) (by rfl)) ?_
  refine box_intro (cs := #[.int .i64 r0, .int .i64 c0, .int .i64 r1, .int .i64 c1, .int .i64 0, .pointer none]) (by rfl) (fun b7 w7 e7 h_b7 _ U7 => ?_)
  have ne_b1_b7 : b1 ≠ b7 := by have := lt_get h_b1; omega
  have ne_b2_b7 : b2 ≠ b7 := by have := lt_get h_b2; omega
  have ge_b7 : w.heap.size ≤ b7 := by have := hF.size; omega
  replace h_b1 := U7.get0 h_b1
  replace h_b2 := U7.get0 h_b2
  replace hF := hF.go0 U7
  clear e7
  refine callF_ex (c_scr_Clear h_b7 hz) (fun v8 w8 D8 => ?_)
  obtain ⟨bp, g, N8, gbp, h_bp, own_p, U8⟩ := D8
  have ne_b1_bp : b1 ≠ bp := by have := lt_get h_b1; omega
  have ne_b2_bp : b2 ≠ bp := by have := lt_get h_b2; omega
  have ne_b7_bp : b7 ≠ bp := by have := lt_get h_b7; omega
  have ge_bp : w.heap.size ≤ bp := by have := hF.size; omega
  have nx8_h_b1_own_p : ¬ ownS _ b1 := fun h => by have := (Own.ge own_p h).1; have := lt_get h_b1; omega
  have nx8_h_b2_own_p : ¬ ownS _ b2 := fun h => by have := (Own.ge own_p h).1; have := lt_get h_b2; omega
  have nx8_h_b7_own_p : ¬ ownS _ b7 := fun h => by have := (Own.ge own_p h).1; have := lt_get h_b7; omega
  replace own_p := own_p.mono (B' := w.heap.size) hF.size
  replace h_b1 := U8.get1 h_b1 ne_b1_b7
  replace h_b2 := U8.get1 h_b2 ne_b2_b7
  replace h_b7 := N8
  replace hF := hF.go1 U8 ge_b7
  exact ⟨_, rfl, _, bp, g, rfl, ge_b7, ge_bp, h_b7, h_bp, own_p, hF⟩

/-- greenscreen/keyboard.New -/
theorem c_kb_New {bs : Nat} {w : World} :
    Calls Tryz.prog 15 #[.pointer (some ⟨bs, 0, none⟩)] w fun e w' => ∃ v, e = .returned v ∧ ∃ bk, v = .pointer (some ⟨bk, 0, none⟩) ∧ w.heap.size ≤ bk ∧ w'.heap[bk]? = some (.cells #[.pointer (some ⟨bs, 0, none⟩), .int .i64 0, .int .i64 0, .int .i64 0, .bool false, .int .u8 96] 95 (0, 0)) ∧ Upd no w w' := by
  refine F15.calls ?_
  unfold F15
  have hF : Upd no w w := Fr.refl _ _ _
  refine opv_run (build_eq (l := [(0, 1), (1, 3), (4, 1), (5, 1)]) (z := #[.pointer none, .int .i64 0, .int .i64 0, .int .i64 0, .bool false, .int .u8 0]) (cs := [.pointer (some ⟨bs, 0, none⟩), .int .i64 0, .int .i64 0, .int .i64 0, .bool false, .int .u8 96]) (by kernel_rfl) (by rfl)) ?_
  refine box_intro (cs := #[.pointer (some ⟨bs, 0, none⟩), .int .i64 0, .int .i64 0, .int .i64 0, .bool false, .int .u8 96]) (by rfl) (fun b2 w2 e2 h_b2 _ U2 => ?_)
  have ge_b2 : w.heap.size ≤ b2 := by have := hF.size; omega
  replace hF := hF.go0 U2
  clear e2
  exact ⟨_, rfl, _, rfl, ge_b2, h_b2, hF⟩

/-- (*greenscreen/keyboard.Keyboard).Lock -/
theorem c_kb_Lock {bk bs : Nat} {st why tn last : Int} {ins : Bool} {w : World} (h_bk : w.heap[bk]? = some (.cells #[.pointer (some ⟨bs, 0, none⟩), .int .i64 st, .int .i64 why, .int .i64 tn, .bool ins, .int .u8 last] 95 (0, 0)))  :
    Calls Tryz.prog 16 #[.pointer (some ⟨bk, 0, none⟩)] w fun e w' => e = .returned (.pointer (some ⟨bk, 1, none⟩)) ∧ Upd no w w' := by
  refine F16.calls ?_
  unfold F16
  have lt_h_bk := lt_get h_bk
  have hF : Upd no w w := Fr.refl _ _ _
  refine nilckp ?_
  refine opv_run (fieldAt_eq (off := 1) (by kernel_rfl)) ?_
  exact ⟨rfl, hF⟩

/-- greenscreen/keyboard.move -/
theorem c_kb_move5 {r c cur : Int} {A : Option Addr} {n cp bp B0 : Nat} {cs : List Gs.Cell} {w : World} (h_bp : w.heap[bp]? = some (.cells #[.int .i64 r, .int .i64 c, .slice A n cp, .int .i64 cur] 91 (0, 0))) (own_p : Own B0 w 37 5 (.slice A n cp) (rows Gs.cv cs)) (hn : n = cs.length) (hp : 0 < n) (hN : Gs.cellsN r c = n) (hb : n ≤ 4096) (hcw : Gs.Cws cs)  :
    Calls Tryz.prog 50 #[.pointer (some ⟨bp, 0, none⟩), .int .i64 5] w fun e w' => ∃ v, e = .returned v ∧ v = .bool true ∧ w'.heap[bp]? = some (.cells #[.int .i64 r, .int .i64 c, .slice A n cp, .int .i64 (Gs.homeM cs)] 91 (0, 0)) ∧ Upd (· = bp) w w' := by
  refine F50.calls ?_
  unfold F50
  have lt_h_bp := lt_get h_bp
  have lt_own_p := Own.lt own_p
  have hF : Upd (· = bp) w w := Fr.refl _ _ _
  refine join_cut (fun g w' => (w'.heap[bp]? = some (.cells #[.int .i64 r, .int .i64 c, .slice A n cp, .int .i64 (Gs.homeM cs)] 91 (0, 0))) ∧ (Upd (· = bp) w w')) (fun J1 hJ1 => ?_) (fun gJ1 wJ1 hI => ?_)
  · refine opv_F (eqI _ _ _ _ _) (by decide) ?_
    refine condf ?_
    refine opv_F (eqI _ _ _ _ _) (by decide) ?_
    refine condf ?_
    refine opv_F (eqI _ _ _ _ _) (by decide) ?_
    refine condf ?_
    refine opv_T (eqI _ _ _ _ _) (rfl) ?_
    refine condt ?_
    refine callF_ex (c_caret_Home h_bp own_p hn hp hN hb hcw) (fun v1 w1 D1 => ?_)
    obtain ⟨rfl, N1, U1⟩ := D1
    replace own_p := own_p.upd1 U1 (by first | assumption | exact Own.ne_blk own_p (by assumption) (by decide) | exact Own.not_loop own_p (by assumption) (by assumption) | exact Own.not_def own_p (by assumption) | exact Own.not_loop own_p (by assumption) (lp3 _))
    replace h_bp := N1
    replace hF := hF.go U1 (fun i _ h => h)
    refine hJ1 _ _ ?_
    exact ⟨h_bp, hF⟩
  · obtain ⟨h_bp, hF⟩ := hI
    exact ⟨_, rfl, rfl, h_bp, hF⟩

/-- greenscreen/keyboard.move -/
theorem c_kb_move1 {bp : Nat} {w : World} :
    Calls Tryz.prog 50 #[.pointer (some ⟨bp, 0, none⟩), .int .i64 1] w fun e w' => e = .returned (.bool false) ∧ Upd no w w' := by
  refine F50.calls ?_
  unfold F50
  have hF : Upd no w w := Fr.refl _ _ _
  refine join_cut (fun g w' => (False) ∧ (Upd no w w')) (fun J1 hJ1 => ?_) (fun gJ1 wJ1 hI => ?_)
  · refine opv_F (eqI _ _ _ _ _) (by decide) ?_
    refine condf ?_
    refine opv_F (eqI _ _ _ _ _) (by decide) ?_
    refine condf ?_
    refine opv_F (eqI _ _ _ _ _) (by decide) ?_
    refine condf ?_
    refine opv_F (eqI _ _ _ _ _) (by decide) ?_
    refine condf ?_
    refine opv_F (eqI _ _ _ _ _) (by decide) ?_
    refine condf ?_
    refine opv_F (eqI _ _ _ _ _) (by decide) ?_
    refine condf ?_
    refine opv_F (eqI _ _ _ _ _) (by decide) ?_
    refine condf ?_
    refine opv_F (eqI _ _ _ _ _) (by decide) ?_
    refine condf ?_
    first | exact hno.elim | exact ⟨rfl, hF⟩
  · obtain ⟨hno, hF⟩ := hI
    first | exact hno.elim | exact ⟨rfl, hF⟩

/-- (*greenscreen/keyboard.Keyboard).Press -/
theorem c_Press_Home {r c cur : Int} {A : Option Addr} {n cp bp B0 : Nat} {cs : List Gs.Cell} {bk bs : Nat} {st why tn last : Int} {ins : Bool} {r0 c0 r1 c1 wh : Int} {w : World} (h_bp : w.heap[bp]? = some (.cells #[.int .i64 r, .int .i64 c, .slice A n cp, .int .i64 cur] 91 (0, 0))) (own_p : Own B0 w 37 5 (.slice A n cp) (rows Gs.cv cs)) (hn : n = cs.length) (h_bk : w.heap[bk]? = some (.cells #[.pointer (some ⟨bs, 0, none⟩), .int .i64 st, .int .i64 why, .int .i64 tn, .bool ins, .int .u8 last] 95 (0, 0))) (h_bs : w.heap[bs]? = some (.cells #[.int .i64 r0, .int .i64 c0, .int .i64 r1, .int .i64 c1, .int .i64 wh, .pointer (some ⟨bp, 0, none⟩)] 89 (0, 0))) {x : Int} (hp : 0 < n) (hN : Gs.cellsN r c = n) (hb : n ≤ 4096) (hcw : Gs.Cws cs) (hxb : 0 ≤ x ∧ x ≤ 255) (hs : st = 1)  :
    Calls Tryz.prog 18 #[.pointer (some ⟨bk, 0, none⟩), .agg #[.int .i64 5, .int .u8 x]] w fun e w' => ∃ v, e = .returned v ∧ v = .tuple #[.bool false, .int .i64 0] ∧ w'.heap[bp]? = some (.cells #[.int .i64 r, .int .i64 c, .slice A n cp, .int .i64 (Gs.homeM cs)] 91 (0, 0)) ∧ Upd (· = bp) w w' := by
  refine F18.calls ?_
  unfold F18
  have lt_h_bk := lt_get h_bk
  have lt_h_bs := lt_get h_bs
  have lt_h_bp := lt_get h_bp
  have lt_own_p := Own.lt own_p
  have hF : Upd (· = bp) w w := Fr.refl _ _ _
  refine box_intro (cs := #[.int .i64 5, .int .u8 x]) (by rfl) (fun b1 w1 e1 h_b1 _ U1 => ?_)
  have ne_bk_b1 : bk ≠ b1 := by have := lt_get h_bk; omega
  have ne_bs_b1 : bs ≠ b1 := by have := lt_get h_bs; omega
  have ne_bp_b1 : bp ≠ b1 := by have := lt_get h_bp; omega
  have na_own_p_b1 := own_p.apart e1
  have ge_b1 : w.heap.size ≤ b1 := by have := hF.size; omega
  replace own_p := own_p.upd0 U1
  replace h_bk := U1.get0 h_bk
  replace h_bs := U1.get0 h_bs
  replace h_bp := U1.get0 h_bp
  replace hF := hF.go0 U1
  clear e1
  refine opv_run (fieldAt_eq (off := 0) (by kernel_rfl)) ?_
  refine opv_run (ldC (by kernel_rfl) h_b1 (by rfl)) ?_
  refine opv_F (eqI _ _ _ _ _) (by decide) ?_
  refine condf ?_
  refine nilckp ?_
  refine opv_run (fieldAt_eq (off := 1) (by kernel_rfl)) ?_
  refine callF_val (c_lock_May h_bk) (fun w2 U2 => ?_)
  replace own_p := own_p.upd0 U2
  replace h_bk := U2.get0 h_bk
  replace h_bs := U2.get0 h_bs
  replace h_bp := U2.get0 h_bp
  replace h_b1 := U2.get0 h_b1
  replace hF := hF.go0 U2
  rw [if_pos hs]
  refine opv_F (neI _ _ _ _ _) (fun h => h rfl) ?_
  refine condf ?_
  refine opv_run (ldA (n := 2) (cs' := #[.int .i64 5, .int .u8 x]) (by kernel_rfl) h_b1 (by first | exact Nat.le_of_ble_eq_true rfl | (simp; done) | omega) (by rfl)) ?_
  refine callF_T (c_kb_right hxb) (decide_eq_true (.inl (by decide))) (fun w3 U3 => ?_)
  replace own_p := own_p.upd0 U3
  replace h_bk := U3.get0 h_bk
  replace h_bs := U3.get0 h_bs
  replace h_bp := U3.get0 h_bp
  replace h_b1 := U3.get0 h_b1
  replace hF := hF.go0 U3
  refine opv_run (notT) ?_
  refine condf ?_
  refine opv_run (fieldAt_eq (off := 0) (by kernel_rfl)) ?_
  refine opv_run (ldC (by kernel_rfl) h_b1 (by rfl)) ?_
  refine opv_F (eqI _ _ _ _ _) (by decide) ?_
  refine condf ?_
  refine drawn_S (S := (· = bp)) (fun w4 U4 => ?_)
  replace own_p := own_p.upd0 U4
  replace h_bk := U4.get0 h_bk
  replace h_bs := U4.get0 h_bs
  replace h_bp := U4.get0 h_bp
  replace h_b1 := U4.get0 h_b1
  replace hF := hF.go0 U4
  refine qnilckp ?_
  refine qop_run (fun w' hw' => (fieldAt_eq (off := 0) (by kernel_rfl))) ?_
  refine qop_run (fun w' hw' => by have h_bk := hw'.get1 h_bk (by first | omega | exact blk_ne (by assumption) (by assumption) (by decide) | exact blk_not_loop (by assumption) (by assumption) (by assumption) | exact Ne.symm (blk_not_loop (by assumption) (by assumption) (by assumption)) | exact blk_not_def (by assumption) (by assumption) | exact Ne.symm (blk_not_def (by assumption) (by assumption)) | exact def_ne_blk (by assumption) (by assumption) | exact Ne.symm (def_ne_blk (by assumption) (by assumption))); exact (ldC (by kernel_rfl) h_bk (by rfl))) ?_
  refine qop_run (fun w' hw' => (fieldAt_eq (off := 0) (by kernel_rfl))) ?_
  refine qop_run (fun w' hw' => by have h_b1 := hw'.get1 h_b1 (Ne.symm ne_bp_b1); exact (ldC (by kernel_rfl) h_b1 (by rfl))) ?_
  refine ext_intro (fun w5 U5 => ?_)
  replace own_p := own_p.upd0 U5
  replace h_bk := U5.get0 h_bk
  replace h_bs := U5.get0 h_bs
  replace h_bp := U5.get0 h_bp
  replace h_b1 := U5.get0 h_b1
  replace hF := hF.go0 U5
  refine lop_i ?_
  refine callF_val (c_scr_Plane h_bs) (fun w6 U6 => ?_)
  replace own_p := own_p.upd0 U6
  replace h_bk := U6.get0 h_bk
  replace h_bs := U6.get0 h_bs
  replace h_bp := U6.get0 h_bp
  replace h_b1 := U6.get0 h_b1
  replace hF := hF.go0 U6
  refine ⟨U6.any, ?_⟩
  refine ext_intro (fun w7 U7 => ?_)
  replace own_p := own_p.upd0 U7
  replace h_bk := U7.get0 h_bk
  replace h_bs := U7.get0 h_bs
  replace h_bp := U7.get0 h_bp
  replace h_b1 := U7.get0 h_b1
  replace hF := hF.go0 U7
  refine lop_i ?_
  refine callF_ex (c_kb_move5 h_bp own_p hn hp hN hb hcw) (fun v8 w8 D8 => ?_)
  obtain ⟨rfl, N8, U8⟩ := D8
  replace own_p := own_p.upd1 U8 (by first | assumption | exact Own.ne_blk own_p (by assumption) (by decide) | exact Own.not_loop own_p (by assumption) (by assumption) | exact Own.not_def own_p (by assumption) | exact Own.not_loop own_p (by assumption) (lp3 _))
  replace h_bk := U8.get1 h_bk (by first | omega | exact blk_ne (by assumption) (by assumption) (by decide) | exact blk_not_loop (by assumption) (by assumption) (by assumption) | exact Ne.symm (blk_not_loop (by assumption) (by assumption) (by assumption)) | exact blk_not_def (by assumption) (by assumption) | exact Ne.symm (blk_not_def (by assumption) (by assumption)) | exact def_ne_blk (by assumption) (by assumption) | exact Ne.symm (def_ne_blk (by assumption) (by assumption)))
  replace h_bs := U8.get1 h_bs (by first | omega | exact blk_ne (by assumption) (by assumption) (by decide) | exact blk_not_loop (by assumption) (by assumption) (by assumption) | exact Ne.symm (blk_not_loop (by assumption) (by assumption) (by assumption)) | exact blk_not_def (by assumption) (by assumption) | exact Ne.symm (blk_not_def (by assumption) (by assumption)) | exact def_ne_blk (by assumption) (by assumption) | exact Ne.symm (def_ne_blk (by assumption) (by assumption)))
  replace h_b1 := U8.get1 h_b1 (Ne.symm ne_bp_b1)
  replace h_bp := N8
  replace hF := hF.go U8 (fun i _ h => h)
  refine ⟨U8, ?_⟩
  refine ext_intro (fun w9 U9 => ?_)
  replace own_p := own_p.upd0 U9
  replace h_bk := U9.get0 h_bk
  replace h_bs := U9.get0 h_bs
  replace h_bp := U9.get0 h_bp
  replace h_b1 := U9.get0 h_b1
  replace hF := hF.go0 U9
  refine condt ?_
  exact ⟨_, rfl, rfl, h_bp, hF⟩

/-- (*greenscreen/keyboard.Keyboard).edit -/
theorem c_kb_edit1 {r c cur : Int} {A : Option Addr} {n cp bp B0 : Nat} {cs : List Gs.Cell} {bk bs : Nat} {st why tn last : Int} {r0 c0 r1 c1 wh : Int} {w : World} (h_bp : w.heap[bp]? = some (.cells #[.int .i64 r, .int .i64 c, .slice A n cp, .int .i64 cur] 91 (0, 0))) (own_p : Own B0 w 37 5 (.slice A n cp) (rows Gs.cv cs)) (hn : n = cs.length) (h_bk : w.heap[bk]? = some (.cells #[.pointer (some ⟨bs, 0, none⟩), .int .i64 st, .int .i64 why, .int .i64 tn, .bool false, .int .u8 last] 95 (0, 0))) (h_bs : w.heap[bs]? = some (.cells #[.int .i64 r0, .int .i64 c0, .int .i64 r1, .int .i64 c1, .int .i64 wh, .pointer (some ⟨bp, 0, none⟩)] 89 (0, 0))) {x : Int} (hp : 0 < n) (hN : Gs.cellsN r c = n) (hb : n ≤ 4096) (hcw : Gs.Cws cs) (hxb : 0 ≤ x ∧ x ≤ 255) (hof : Gs.ofB cs cur = true) (hop : Gs.openM cs cur = true) (hnm : ¬ (Gs.ofM cs cur).a / 16 % 2 = 1) (hx : (Gs.getC (Gs.markC (Gs.setC cs cur ⟨x, false, false, (Gs.getC cs cur).l, (Gs.getC cs cur).c⟩) cur) ((cur + 1) % (n : Int))).st = false)  :
    Calls Tryz.prog 52 #[.pointer (some ⟨bk, 0, none⟩), .agg #[.int .i64 1, .int .u8 x]] w fun e w' => ∃ v, e = .returned v ∧ v = .int .i64 0 ∧ w'.heap[bp]? = some (.cells #[.int .i64 r, .int .i64 c, .slice A n cp, .int .i64 ((cur + 1) % (n : Int))] 91 (0, 0)) ∧ Own B0 w' 37 5 (.slice A n cp) (rows Gs.cv (Gs.markC (Gs.setC cs cur ⟨x, false, false, (Gs.getC cs cur).l, (Gs.getC cs cur).c⟩) cur)) ∧ Upd (fun k => ownS (.slice A n cp) k ∨ k = bp) w w' := by
  refine F52.calls ?_
  unfold F52
  have lt_h_bk := lt_get h_bk
  have lt_h_bs := lt_get h_bs
  have lt_h_bp := lt_get h_bp
  have lt_own_p := Own.lt own_p
  have hF : Upd (fun k => ownS (.slice A n cp) k ∨ k = bp) w w := Fr.refl _ _ _
  refine box_intro (cs := #[.int .i64 1, .int .u8 x]) (by rfl) (fun b1 w1 e1 h_b1 _ U1 => ?_)
  have ne_bk_b1 : bk ≠ b1 := by have := lt_get h_bk; omega
  have ne_bs_b1 : bs ≠ b1 := by have := lt_get h_bs; omega
  have ne_bp_b1 : bp ≠ b1 := by have := lt_get h_bp; omega
  have na_own_p_b1 := own_p.apart e1
  have ge_b1 : w.heap.size ≤ b1 := by have := hF.size; omega
  replace own_p := own_p.upd0 U1
  replace h_bk := U1.get0 h_bk
  replace h_bs := U1.get0 h_bs
  replace h_bp := U1.get0 h_bp
  replace hF := hF.go0 U1
  clear e1
  refine nilckp ?_
  refine opv_run (fieldAt_eq (off := 0) (by kernel_rfl)) ?_
  refine opv_run (ldC (by kernel_rfl) h_bk (by rfl)) ?_
  refine callF_val (c_scr_Plane h_bs) (fun w2 U2 => ?_)
  replace own_p := own_p.upd0 U2
  replace h_bk := U2.get0 h_bk
  replace h_bs := U2.get0 h_bs
  replace h_bp := U2.get0 h_bp
  replace h_b1 := U2.get0 h_b1
  replace hF := hF.go0 U2
  refine join_cut (fun g w' => (False) ∧ (Upd (fun k => ownS (.slice A n cp) k ∨ k = bp) w w')) (fun J1 hJ1 => ?_) (fun gJ1 wJ1 hI => ?_)
  · refine opv_run (fieldAt_eq (off := 0) (by kernel_rfl)) ?_
    refine opv_run (ldC (by kernel_rfl) h_b1 (by rfl)) ?_
    refine opv_T (eqI _ _ _ _ _) (rfl) ?_
    refine condt ?_
    refine drawn_S (S := fun k => ownS (.slice A n cp) k ∨ k = bp) (fun w3 U3 => ?_)
    replace own_p := own_p.upd0 U3
    replace h_bk := U3.get0 h_bk
    replace h_bs := U3.get0 h_bs
    replace h_bp := U3.get0 h_bp
    replace h_b1 := U3.get0 h_b1
    replace hF := hF.go0 U3
    refine qop_run (fun w' hw' => (fieldAt_eq (off := 1) (by kernel_rfl))) ?_
    refine qop_run (fun w' hw' => by have h_b1 := hw'.get h_b1 (fun hs => Or.elim hs (fun h => by first | exact Own.ne_blk own_p h_b1 (by decide) _ h rfl | (have := Own.ge own_p h; omega)) (fun e => absurd e (Ne.symm ne_bp_b1))); exact (ldC (by kernel_rfl) h_b1 (by rfl))) ?_
    refine qnilckp ?_
    refine qop_run (fun w' hw' => (fieldAt_eq (off := 4) (by kernel_rfl))) ?_
    refine qop_run (fun w' hw' => by have h_bk := hw'.get h_bk (fun hs => Or.elim hs (fun h => by first | exact Own.ne_blk own_p h_bk (by decide) _ h rfl | (have := Own.ge own_p h; omega)) (fun e => absurd e (by first | omega | exact blk_ne (by assumption) (by assumption) (by decide) | exact blk_not_loop (by assumption) (by assumption) (by assumption) | exact Ne.symm (blk_not_loop (by assumption) (by assumption) (by assumption)) | exact blk_not_def (by assumption) (by assumption) | exact Ne.symm (blk_not_def (by assumption) (by assumption)) | exact def_ne_blk (by assumption) (by assumption) | exact Ne.symm (def_ne_blk (by assumption) (by assumption))))); exact (ldC (by kernel_rfl) h_bk (by rfl))) ?_
    refine ext_intro (fun w4 U4 => ?_)
    replace own_p := own_p.upd0 U4
    replace h_bk := U4.get0 h_bk
    replace h_bs := U4.get0 h_bs
    replace h_bp := U4.get0 h_bp
    replace h_b1 := U4.get0 h_b1
    replace hF := hF.go0 U4
    refine lop_i ?_
    refine callF_ex (c_typing_Put0 h_bp own_p hn hp hN hb hcw hxb hof hop hnm hx) (fun v5 w5 D5 => ?_)
    obtain ⟨rfl, M5, N5, U5⟩ := D5
    have own_p_o := own_p
    replace own_p := N5
    replace h_bk := U5.get h_bk (fun hs => Or.elim (show ownS _ _ ∨ _ = _ from hs) (fun h => by first | exact Own.ne_blk own_p_o h_bk (by decide) _ h rfl | (have := Own.ge own_p_o h; omega)) (fun hb => absurd hb (by first | omega | exact blk_ne (by assumption) (by assumption) (by decide) | exact blk_not_loop (by assumption) (by assumption) (by assumption) | exact Ne.symm (blk_not_loop (by assumption) (by assumption) (by assumption)) | exact blk_not_def (by assumption) (by assumption) | exact Ne.symm (blk_not_def (by assumption) (by assumption)) | exact def_ne_blk (by assumption) (by assumption) | exact Ne.symm (def_ne_blk (by assumption) (by assumption)))))
    replace h_bs := U5.get h_bs (fun hs => Or.elim (show ownS _ _ ∨ _ = _ from hs) (fun h => by first | exact Own.ne_blk own_p_o h_bs (by decide) _ h rfl | (have := Own.ge own_p_o h; omega)) (fun hb => absurd hb (by first | omega | exact blk_ne (by assumption) (by assumption) (by decide) | exact blk_not_loop (by assumption) (by assumption) (by assumption) | exact Ne.symm (blk_not_loop (by assumption) (by assumption) (by assumption)) | exact blk_not_def (by assumption) (by assumption) | exact Ne.symm (blk_not_def (by assumption) (by assumption)) | exact def_ne_blk (by assumption) (by assumption) | exact Ne.symm (def_ne_blk (by assumption) (by assumption)))))
    replace h_bp := M5
    replace h_b1 := U5.get h_b1 (fun hs => Or.elim (show ownS _ _ ∨ _ = _ from hs) (fun h => by first | exact Own.ne_blk own_p_o h_b1 (by decide) _ h rfl | (have := Own.ge own_p_o h; omega)) (fun hb => absurd hb (Ne.symm ne_bp_b1)))
    replace hF := hF.go U5 (fun i h hs => Or.elim (show ownS _ _ ∨ _ = _ from hs) (fun hs => by first | exact hs | exact .inl hs | exact .inr hs | (have := (Own.ge own_p_o hs).1; omega)) (fun hb => by first | (subst hb; omega) | exact .inr hb))
    clear own_p_o
    refine ⟨U5, ?_⟩
    refine ext_intro (fun w6 U6 => ?_)
    replace own_p := own_p.upd0 U6
    replace h_bk := U6.get0 h_bk
    replace h_bs := U6.get0 h_bs
    replace h_bp := U6.get0 h_bp
    replace h_b1 := U6.get0 h_b1
    replace hF := hF.go0 U6
    first | exact hno.elim | exact ⟨_, rfl, rfl, h_bp, own_p, hF⟩
  · obtain ⟨hno, hF⟩ := hI
    first | exact hno.elim | exact ⟨_, rfl, rfl, h_bp, own_p, hF⟩

/-- (*greenscreen/keyboard.Keyboard).Press -/
theorem c_Press_Char {r c cur : Int} {A : Option Addr} {n cp bp B0 : Nat} {cs : List Gs.Cell} {bk bs : Nat} {st why tn last : Int} {r0 c0 r1 c1 wh : Int} {w : World} (h_bp : w.heap[bp]? = some (.cells #[.int .i64 r, .int .i64 c, .slice A n cp, .int .i64 cur] 91 (0, 0))) (own_p : Own B0 w 37 5 (.slice A n cp) (rows Gs.cv cs)) (hn : n = cs.length) (h_bk : w.heap[bk]? = some (.cells #[.pointer (some ⟨bs, 0, none⟩), .int .i64 st, .int .i64 why, .int .i64 tn, .bool false, .int .u8 last] 95 (0, 0))) (h_bs : w.heap[bs]? = some (.cells #[.int .i64 r0, .int .i64 c0, .int .i64 r1, .int .i64 c1, .int .i64 wh, .pointer (some ⟨bp, 0, none⟩)] 89 (0, 0))) {x : Int} (hp : 0 < n) (hN : Gs.cellsN r c = n) (hb : n ≤ 4096) (hcw : Gs.Cws cs) (hxb : 0 ≤ x ∧ x ≤ 255) (hof : Gs.ofB cs cur = true) (hop : Gs.openM cs cur = true) (hnm : ¬ (Gs.ofM cs cur).a / 16 % 2 = 1) (hx : (Gs.getC (Gs.markC (Gs.setC cs cur ⟨x, false, false, (Gs.getC cs cur).l, (Gs.getC cs cur).c⟩) cur) ((cur + 1) % (n : Int))).st = false) (hs : st = 1)  :
    Calls Tryz.prog 18 #[.pointer (some ⟨bk, 0, none⟩), .agg #[.int .i64 1, .int .u8 x]] w fun e w' => ∃ v, e = .returned v ∧ v = .tuple #[.bool false, .int .i64 0] ∧ w'.heap[bp]? = some (.cells #[.int .i64 r, .int .i64 c, .slice A n cp, .int .i64 ((cur + 1) % (n : Int))] 91 (0, 0)) ∧ Own B0 w' 37 5 (.slice A n cp) (rows Gs.cv (Gs.markC (Gs.setC cs cur ⟨x, false, false, (Gs.getC cs cur).l, (Gs.getC cs cur).c⟩) cur)) ∧ Upd (fun k => ownS (.slice A n cp) k ∨ k = bp) w w' := by
  refine F18.calls ?_
  unfold F18
  have lt_h_bk := lt_get h_bk
  have lt_h_bs := lt_get h_bs
  have lt_h_bp := lt_get h_bp
  have lt_own_p := Own.lt own_p
  have hF : Upd (fun k => ownS (.slice A n cp) k ∨ k = bp) w w := Fr.refl _ _ _
  refine box_intro (cs := #[.int .i64 1, .int .u8 x]) (by rfl) (fun b1 w1 e1 h_b1 _ U1 => ?_)
  have ne_bk_b1 : bk ≠ b1 := by have := lt_get h_bk; omega
  have ne_bs_b1 : bs ≠ b1 := by have := lt_get h_bs; omega
  have ne_bp_b1 : bp ≠ b1 := by have := lt_get h_bp; omega
  have na_own_p_b1 := own_p.apart e1
  have ge_b1 : w.heap.size ≤ b1 := by have := hF.size; omega
  replace own_p := own_p.upd0 U1
  replace h_bk := U1.get0 h_bk
  replace h_bs := U1.get0 h_bs
  replace h_bp := U1.get0 h_bp
  replace hF := hF.go0 U1
  clear e1
  refine opv_run (fieldAt_eq (off := 0) (by kernel_rfl)) ?_
  refine opv_run (ldC (by kernel_rfl) h_b1 (by rfl)) ?_
  refine opv_F (eqI _ _ _ _ _) (by decide) ?_
  refine condf ?_
  refine nilckp ?_
  refine opv_run (fieldAt_eq (off := 1) (by kernel_rfl)) ?_
  refine callF_val (c_lock_May h_bk) (fun w2 U2 => ?_)
  replace own_p := own_p.upd0 U2
  replace h_bk := U2.get0 h_bk
  replace h_bs := U2.get0 h_bs
  replace h_bp := U2.get0 h_bp
  replace h_b1 := U2.get0 h_b1
  replace hF := hF.go0 U2
  rw [if_pos hs]
  refine opv_F (neI _ _ _ _ _) (fun h => h rfl) ?_
  refine condf ?_
  refine opv_run (ldA (n := 2) (cs' := #[.int .i64 1, .int .u8 x]) (by kernel_rfl) h_b1 (by first | exact Nat.le_of_ble_eq_true rfl | (simp; done) | omega) (by rfl)) ?_
  refine callF_T (c_kb_right hxb) (decide_eq_true (.inl (by decide))) (fun w3 U3 => ?_)
  replace own_p := own_p.upd0 U3
  replace h_bk := U3.get0 h_bk
  replace h_bs := U3.get0 h_bs
  replace h_bp := U3.get0 h_bp
  replace h_b1 := U3.get0 h_b1
  replace hF := hF.go0 U3
  refine opv_run (notT) ?_
  refine condf ?_
  refine opv_run (fieldAt_eq (off := 0) (by kernel_rfl)) ?_
  refine opv_run (ldC (by kernel_rfl) h_b1 (by rfl)) ?_
  refine opv_F (eqI _ _ _ _ _) (by decide) ?_
  refine condf ?_
  refine drawn_S (S := no) (fun w4 U4 => ?_)
  replace own_p := own_p.upd0 U4
  replace h_bk := U4.get0 h_bk
  replace h_bs := U4.get0 h_bs
  replace h_bp := U4.get0 h_bp
  replace h_b1 := U4.get0 h_b1
  replace hF := hF.go0 U4
  refine qnilckp ?_
  refine qop_run (fun w' hw' => (fieldAt_eq (off := 0) (by kernel_rfl))) ?_
  refine qop_run (fun w' hw' => by have h_bk := hw'.get0 h_bk; exact (ldC (by kernel_rfl) h_bk (by rfl))) ?_
  refine qop_run (fun w' hw' => (fieldAt_eq (off := 0) (by kernel_rfl))) ?_
  refine qop_run (fun w' hw' => by have h_b1 := hw'.get0 h_b1; exact (ldC (by kernel_rfl) h_b1 (by rfl))) ?_
  refine ext_intro (fun w5 U5 => ?_)
  replace own_p := own_p.upd0 U5
  replace h_bk := U5.get0 h_bk
  replace h_bs := U5.get0 h_bs
  replace h_bp := U5.get0 h_bp
  replace h_b1 := U5.get0 h_b1
  replace hF := hF.go0 U5
  refine lop_i ?_
  refine callF_val (c_scr_Plane h_bs) (fun w6 U6 => ?_)
  replace own_p := own_p.upd0 U6
  replace h_bk := U6.get0 h_bk
  replace h_bs := U6.get0 h_bs
  replace h_bp := U6.get0 h_bp
  replace h_b1 := U6.get0 h_b1
  replace hF := hF.go0 U6
  refine ⟨U6, ?_⟩
  refine ext_intro (fun w7 U7 => ?_)
  replace own_p := own_p.upd0 U7
  replace h_bk := U7.get0 h_bk
  replace h_bs := U7.get0 h_bs
  replace h_bp := U7.get0 h_bp
  replace h_b1 := U7.get0 h_b1
  replace hF := hF.go0 U7
  refine lop_i ?_
  refine callF_F (c_kb_move1) (rfl) (fun w8 U8 => ?_)
  replace own_p := own_p.upd0 U8
  replace h_bk := U8.get0 h_bk
  replace h_bs := U8.get0 h_bs
  replace h_bp := U8.get0 h_bp
  replace h_b1 := U8.get0 h_b1
  replace hF := hF.go0 U8
  refine ⟨U8, ?_⟩
  refine ext_intro (fun w9 U9 => ?_)
  replace own_p := own_p.upd0 U9
  replace h_bk := U9.get0 h_bk
  replace h_bs := U9.get0 h_bs
  replace h_bp := U9.get0 h_bp
  replace h_b1 := U9.get0 h_b1
  replace hF := hF.go0 U9
  refine condf ?_
  refine drawn_S (S := fun k => ownS (.slice A n cp) k ∨ k = bp) (fun w10 U10 => ?_)
  replace own_p := own_p.upd0 U10
  replace h_bk := U10.get0 h_bk
  replace h_bs := U10.get0 h_bs
  replace h_bp := U10.get0 h_bp
  replace h_b1 := U10.get0 h_b1
  replace hF := hF.go0 U10
  refine qnilckp ?_
  refine qop_run (fun w' hw' => (fieldAt_eq (off := 1) (by kernel_rfl))) ?_
  refine qop_run (fun w' hw' => by have h_b1 := hw'.get h_b1 (fun hs => Or.elim hs (fun h => by first | exact Own.ne_blk own_p h_b1 (by decide) _ h rfl | (have := Own.ge own_p h; omega)) (fun e => absurd e (Ne.symm ne_bp_b1))); exact (ldA (n := 2) (cs' := #[.int .i64 1, .int .u8 x]) (by kernel_rfl) h_b1 (by first | exact Nat.le_of_ble_eq_true rfl | (simp; done) | omega) (by rfl))) ?_
  refine ext_intro (fun w11 U11 => ?_)
  replace own_p := own_p.upd0 U11
  replace h_bk := U11.get0 h_bk
  replace h_bs := U11.get0 h_bs
  replace h_bp := U11.get0 h_bp
  replace h_b1 := U11.get0 h_b1
  replace hF := hF.go0 U11
  refine lop_i ?_
  refine callF_ex (c_kb_edit1 h_bp own_p hn h_bk h_bs hp hN hb hcw hxb hof hop hnm hx) (fun v12 w12 D12 => ?_)
  obtain ⟨rfl, M12, N12, U12⟩ := D12
  have own_p_o := own_p
  replace own_p := N12
  replace h_bk := U12.get h_bk (fun hs => Or.elim (show ownS _ _ ∨ _ = _ from hs) (fun h => by first | exact Own.ne_blk own_p_o h_bk (by decide) _ h rfl | (have := Own.ge own_p_o h; omega)) (fun hb => absurd hb (by first | omega | exact blk_ne (by assumption) (by assumption) (by decide) | exact blk_not_loop (by assumption) (by assumption) (by assumption) | exact Ne.symm (blk_not_loop (by assumption) (by assumption) (by assumption)) | exact blk_not_def (by assumption) (by assumption) | exact Ne.symm (blk_not_def (by assumption) (by assumption)) | exact def_ne_blk (by assumption) (by assumption) | exact Ne.symm (def_ne_blk (by assumption) (by assumption)))))
  replace h_bs := U12.get h_bs (fun hs => Or.elim (show ownS _ _ ∨ _ = _ from hs) (fun h => by first | exact Own.ne_blk own_p_o h_bs (by decide) _ h rfl | (have := Own.ge own_p_o h; omega)) (fun hb => absurd hb (by first | omega | exact blk_ne (by assumption) (by assumption) (by decide) | exact blk_not_loop (by assumption) (by assumption) (by assumption) | exact Ne.symm (blk_not_loop (by assumption) (by assumption) (by assumption)) | exact blk_not_def (by assumption) (by assumption) | exact Ne.symm (blk_not_def (by assumption) (by assumption)) | exact def_ne_blk (by assumption) (by assumption) | exact Ne.symm (def_ne_blk (by assumption) (by assumption)))))
  replace h_bp := M12
  replace h_b1 := U12.get h_b1 (fun hs => Or.elim (show ownS _ _ ∨ _ = _ from hs) (fun h => by first | exact Own.ne_blk own_p_o h_b1 (by decide) _ h rfl | (have := Own.ge own_p_o h; omega)) (fun hb => absurd hb (Ne.symm ne_bp_b1)))
  replace hF := hF.go U12 (fun i h hs => Or.elim (show ownS _ _ ∨ _ = _ from hs) (fun hs => by first | exact hs | exact .inl hs | exact .inr hs | (have := (Own.ge own_p_o hs).1; omega)) (fun hb => by first | (subst hb; omega) | exact .inr hb))
  clear own_p_o
  refine ⟨U12, ?_⟩
  refine ext_intro (fun w13 U13 => ?_)
  replace own_p := own_p.upd0 U13
  replace h_bk := U13.get0 h_bk
  replace h_bs := U13.get0 h_bs
  replace h_bp := U13.get0 h_bp
  replace h_b1 := U13.get0 h_b1
  replace hF := hF.go0 U13
  refine lop_i ?_
  refine callF_val (c_lock_Fail0 h_bk hs) (fun w14 U14 => ?_)
  replace own_p := own_p.upd0 U14
  replace h_bk := U14.get0 h_bk
  replace h_bs := U14.get0 h_bs
  replace h_bp := U14.get0 h_bp
  replace h_b1 := U14.get0 h_b1
  replace hF := hF.go0 U14
  refine ⟨U14.any, ?_⟩
  refine ext_intro (fun w15 U15 => ?_)
  replace own_p := own_p.upd0 U15
  replace h_bk := U15.get0 h_bk
  replace h_bs := U15.get0 h_bs
  replace h_bp := U15.get0 h_bp
  replace h_b1 := U15.get0 h_b1
  replace hF := hF.go0 U15
  exact ⟨_, rfl, rfl, h_bp, own_p, hF⟩

/-- (*greenscreen/keyboard.Keyboard).send -/
theorem c_kb_send1 {bk bs : Nat} {st why tn last x : Int} {ins : Bool} {w : World} (h_bk : w.heap[bk]? = some (.cells #[.pointer (some ⟨bs, 0, none⟩), .int .i64 st, .int .i64 why, .int .i64 tn, .bool ins, .int .u8 last] 95 (0, 0))) (hs : st = 1) (hnc : x ≠ 109) :
    Calls Tryz.prog 49 #[.pointer (some ⟨bk, 0, none⟩), .int .u8 x] w fun e w' => ∃ v, e = .returned v ∧ v = .tuple #[.bool true, .int .i64 0] ∧ ∃ t' : Int, w'.heap[bk]? = some (.cells #[.pointer (some ⟨bs, 0, none⟩), .int .i64 2, .int .i64 0, .int .i64 t', .bool false, .int .u8 x] 95 (0, 0)) ∧ Upd (· = bk) w w' := by
  refine F49.calls ?_
  unfold F49
  have lt_h_bk := lt_get h_bk
  have hF : Upd (· = bk) w w := Fr.refl _ _ _
  refine nilckp ?_
  refine opv_run (fieldAt_eq (off := 1) (by kernel_rfl)) ?_
  refine callF_ex (c_lock_Send h_bk hs) (fun v1 w1 D1 => ?_)
  obtain ⟨rfl, t10, N1, U1⟩ := D1
  replace h_bk := N1
  replace hF := hF.go U1 (fun i _ h => h)
  refine opv_F (neI _ _ _ _ _) (fun h => h rfl) ?_
  refine condf ?_
  refine nilckp ?_
  refine opv_run (fieldAt_eq (off := 4) (by kernel_rfl)) ?_
  refine store1_intro (by kernel_rfl) rfl rfl h_bk (by first | exact Nat.le_of_ble_eq_true rfl | (simp; done) | omega | (simp [vals_length, *]; done) | (simp [vals_length, *]; omega)) (by first | (simp [vals_set]; rfl) | rfl) (fun w2 N2 _ U2 => ?_)
  replace h_bk := N2
  replace hF := hF.go U2 (fun i _ h => h)
  refine nilckp ?_
  refine opv_run (fieldAt_eq (off := 5) (by kernel_rfl)) ?_
  refine store1_intro (by kernel_rfl) rfl rfl h_bk (by first | exact Nat.le_of_ble_eq_true rfl | (simp; done) | omega | (simp [vals_length, *]; done) | (simp [vals_length, *]; omega)) (by first | (simp [vals_set]; rfl) | rfl) (fun w3 N3 _ U3 => ?_)
  replace h_bk := N3
  replace hF := hF.go U3 (fun i _ h => h)
  refine join_cut (fun g w' => ∃ (t' : Int), (w'.heap[bk]? = some (.cells #[.pointer (some ⟨bs, 0, none⟩), .int .i64 2, .int .i64 0, .int .i64 t', .bool false, .int .u8 x] 95 (0, 0))) ∧ (Upd (· = bk) w w')) (fun J1 hJ1 => ?_) (fun gJ1 wJ1 hI => ?_)
  · refine opv_F (eqI _ _ _ _ _) (hnc) ?_
    refine condf ?_
    refine hJ1 _ _ ?_
    exact ⟨_, h_bk, hF⟩
  · obtain ⟨t', h_bk, hF⟩ := hI
    exact ⟨_, rfl, rfl, _, h_bk, hF⟩

/-- (*greenscreen/keyboard.Keyboard).Press -/
theorem c_Press_Aid {bk bs : Nat} {st why tn last x : Int} {ins : Bool} {w : World} (h_bk : w.heap[bk]? = some (.cells #[.pointer (some ⟨bs, 0, none⟩), .int .i64 st, .int .i64 why, .int .i64 tn, .bool ins, .int .u8 last] 95 (0, 0))) (hs : st = 1) (hnc : x ≠ 109) (hxb : 0 ≤ x ∧ x ≤ 255) (hatt : ¬ Gs.attS x = ⟨#[]⟩) :
    Calls Tryz.prog 18 #[.pointer (some ⟨bk, 0, none⟩), .agg #[.int .i64 17, .int .u8 x]] w fun e w' => ∃ v, e = .returned v ∧ v = .tuple #[.bool true, .int .i64 0] ∧ ∃ t' : Int, w'.heap[bk]? = some (.cells #[.pointer (some ⟨bs, 0, none⟩), .int .i64 2, .int .i64 0, .int .i64 t', .bool false, .int .u8 x] 95 (0, 0)) ∧ Upd (· = bk) w w' := by
  refine F18.calls ?_
  unfold F18
  have lt_h_bk := lt_get h_bk
  have hF : Upd (· = bk) w w := Fr.refl _ _ _
  refine box_intro (cs := #[.int .i64 17, .int .u8 x]) (by rfl) (fun b1 w1 e1 h_b1 _ U1 => ?_)
  have ne_bk_b1 : bk ≠ b1 := by have := lt_get h_bk; omega
  have ge_b1 : w.heap.size ≤ b1 := by have := hF.size; omega
  replace h_bk := U1.get0 h_bk
  replace hF := hF.go0 U1
  clear e1
  refine opv_run (fieldAt_eq (off := 0) (by kernel_rfl)) ?_
  refine opv_run (ldC (by kernel_rfl) h_b1 (by rfl)) ?_
  refine opv_F (eqI _ _ _ _ _) (by decide) ?_
  refine condf ?_
  refine nilckp ?_
  refine opv_run (fieldAt_eq (off := 1) (by kernel_rfl)) ?_
  refine callF_val (c_lock_May h_bk) (fun w2 U2 => ?_)
  replace h_bk := U2.get0 h_bk
  replace h_b1 := U2.get0 h_b1
  replace hF := hF.go0 U2
  rw [if_pos hs]
  refine opv_F (neI _ _ _ _ _) (fun h => h rfl) ?_
  refine condf ?_
  refine opv_run (ldA (n := 2) (cs' := #[.int .i64 17, .int .u8 x]) (by kernel_rfl) h_b1 (by first | exact Nat.le_of_ble_eq_true rfl | (simp; done) | omega) (by rfl)) ?_
  refine callF_T (c_kb_right hxb) (decide_eq_true (.inr ⟨rfl, hatt⟩)) (fun w3 U3 => ?_)
  replace h_bk := U3.get0 h_bk
  replace h_b1 := U3.get0 h_b1
  replace hF := hF.go0 U3
  refine opv_run (notT) ?_
  refine condf ?_
  refine opv_run (fieldAt_eq (off := 0) (by kernel_rfl)) ?_
  refine opv_run (ldC (by kernel_rfl) h_b1 (by rfl)) ?_
  refine opv_T (eqI _ _ _ _ _) (rfl) ?_
  refine condt ?_
  refine opv_run (fieldAt_eq (off := 1) (by kernel_rfl)) ?_
  refine opv_run (ldC (by kernel_rfl) h_b1 (by rfl)) ?_
  refine callF_ex (c_kb_send1 h_bk hs hnc) (fun v4 w4 D4 => ?_)
  obtain ⟨rfl, t36, N4, U4⟩ := D4
  replace h_b1 := U4.get1 h_b1 (Ne.symm ne_bk_b1)
  replace h_bk := N4
  replace hF := hF.go U4 (fun i _ h => h)
  refine opv_run (ext_t (by rfl)) ?_
  refine opv_run (ext_t (by rfl)) ?_
  exact ⟨_, rfl, rfl, _, h_bk, hF⟩

end Go.Proofs.YtjdoakbadehicaaGreatDoor
