/-
  Contracts of functions of the program, walked over their shallow forms. No condition but the ones that each states.
-/
import Derived.Test.YtjdoakbadehicaaGreatDoorF
import Derived.Test.YtjdoakbadehicaaGreatDoorCodeC
import Derived.Test.YtjdoakbadehicaaGreatDoorGramBase
import Derived.Test.YtjdoakbadehicaaGreatDoorBits3
import Derived.Test.YtjdoakbadehicaaGreatDoorStrSlice
import Derived.Test.YtjdoakbadehicaaGreatDoorShelf
namespace Go.Proofs.YtjdoakbadehicaaGreatDoor
open Go Go.Sh
set_option linter.unusedVariables false
set_option maxRecDepth 100000


theorem eqIn_Cell (w : World) {a b : Gs.Cell} : (Op.equalIn 10000 37 (.agg (Gs.cv a).toArray) (.agg (Gs.cv b).toArray)).run Tryz.prog w = .ok (decide (a = b)) w := by
  have hf : plainF Tryz.prog ((Tryz.prog).fieldsOf 37).toList = some [(5, 0), (4, 1), (4, 2), (5, 3), (5, 4)] := by kernel_rfl
  rw [show (10000 : Nat) = 9999 + 1 from rfl, run_equalIn_agg w 9999 37 _ _ (by kernel_rfl) (by kernel_rfl)]
  generalize ((Tryz.prog).fieldsOf 37).toList = fs0 at hf
  obtain ⟨f0, fs1, rfl⟩ := plain_cons hf
  obtain ⟨hf, e0⟩ := eqF_cons (w := w) (d := 9999) (xs := (Gs.cv a).toArray) (ys := (Gs.cv b).toArray) hf rfl rfl (fun w => run_equalIn_int w 9998 5 .u8 .u8 a.b b.b (by kernel_rfl))
  obtain ⟨f1, fs2, rfl⟩ := plain_cons hf
  obtain ⟨hf, e1⟩ := eqF_cons (w := w) (d := 9999) (xs := (Gs.cv a).toArray) (ys := (Gs.cv b).toArray) hf rfl rfl (fun w => run_equalIn_bool' w 9998 4 a.ge b.ge (by kernel_rfl))
  obtain ⟨f2, fs3, rfl⟩ := plain_cons hf
  obtain ⟨hf, e2⟩ := eqF_cons (w := w) (d := 9999) (xs := (Gs.cv a).toArray) (ys := (Gs.cv b).toArray) hf rfl rfl (fun w => run_equalIn_bool' w 9998 4 a.st b.st (by kernel_rfl))
  obtain ⟨f3, fs4, rfl⟩ := plain_cons hf
  obtain ⟨hf, e3⟩ := eqF_cons (w := w) (d := 9999) (xs := (Gs.cv a).toArray) (ys := (Gs.cv b).toArray) hf rfl rfl (fun w => run_equalIn_int w 9998 5 .u8 .u8 a.l b.l (by kernel_rfl))
  obtain ⟨f4, fs5, rfl⟩ := plain_cons hf
  obtain ⟨hf, e4⟩ := eqF_cons (w := w) (d := 9999) (xs := (Gs.cv a).toArray) (ys := (Gs.cv b).toArray) hf rfl rfl (fun w => run_equalIn_int w 9998 5 .u8 .u8 a.c b.c (by kernel_rfl))
  have hn := plain_nil hf; subst hn
  rw [e0]; clear e0
  rw [e1]; clear e1
  rw [e2]; clear e2
  rw [e3]; clear e3
  rw [e4]; clear e4
  rw [eqF_nil]
  obtain ⟨a1, a2, a3, a4, a5⟩ := a; obtain ⟨b1, b2, b3, b4, b5⟩ := b
  simp only [Gs.Cell.mk.injEq, beq_iff_eq]
  by_cases h1 : a1 = b1 <;> by_cases h2 : a2 = b2 <;> by_cases h3 : a3 = b3 <;> by_cases h4 : a4 = b4 <;> by_cases h5 : a5 = b5 <;> simp [h1, h2, h3, h4, h5]
theorem eq_Cell (q : Bool) {w : World} {a b : Gs.Cell} : (binE q .eql 37 (.agg (Gs.cv a).toArray) (.agg (Gs.cv b).toArray)).run Tryz.prog w = .ok (.bool (decide (a = b))) w := eqA (by kernel_rfl) fun w => eqIn_Cell w
theorem ne_Cell (q : Bool) {w : World} {a b : Gs.Cell} : (binE q .neq 37 (.agg (Gs.cv a).toArray) (.agg (Gs.cv b).toArray)).run Tryz.prog w = .ok (.bool (decide (¬ (a = b)))) w := by
  rw [neA (by kernel_rfl) fun w => eqIn_Cell w]; simp

theorem c_Itoa_s {n : Int} {w : World} (hn : 0 ≤ n ∧ n < 100) : Calls Tryz.prog 77 #[.int .i64 n] w fun e w' => e = .returned (.string (Gs.itoaS n)) ∧ Upd no w w' := by
  obtain ⟨m, rfl⟩ := Int.eq_ofNat_of_zero_le hn.1
  rw [Gs.itoaS_nat]
  exact (Go.Proofs.Tryz.strconv_Itoa_small m (by omega) w).mono fun e w' h => ⟨h.1, by rw [h.2]; exact Fr.refl _ _ _⟩

/-- greenscreen/addr.Digit -/
theorem c_addr_Digit {v : Int} {w : World} :
    Calls Tryz.prog 114 #[.int .i64 v] w fun e w' => e = .returned (.int .u8 (Gs.digitM v)) ∧ Upd no w w' := by
  refine F114.calls ?_
  unfold F114
  have hvm : 0 ≤ v % 64 ∧ v % 64 < 64 := by omega
  have hF : Upd no w w := Fr.refl _ _ _
  refine opv_run (and_63 _ _) ?_
  refine opv_run (remN _ (by omega) (by omega) (by omega)) ?_
  refine opv_dec (geq _ _ _ _) (fun h1 => ?_) (fun h1 => ?_)
  · refine gdtt ?_
    refine gdtt ?_
    refine opv_dec (leq _ _ _ _) (fun h2 => ?_) (fun h2 => ?_)
    · refine pickt ?_
      refine gdtt ?_
      refine gdtt ?_
      refine opv_dec (neI _ _ _ _ _) (fun h3 => ?_) (fun h3 => ?_)
      · refine pickt ?_
        refine gdtf ?_
        refine gdtf ?_
        refine pickt ?_
        refine condt ?_
        first | refine opv_run (or6 _ (by omega) (by omega)) ?_ | refine opv_run (or8 _ (by omega) (by omega)) ?_
        first | refine opv_run (conv_u8 (by kernel_rfl) (by kernel_rfl) (by omega)) ?_ | refine opv_run (convII (k := .u8) (by kernel_rfl) (by kernel_rfl)) ?_
        exact ⟨retI (by unfold Gs.digitM; dsimp only; first | (rw [if_pos (by omega)] <;> omega) | (rw [if_neg (by omega)] <;> omega)), hF⟩
      · refine pickt ?_
        refine gdff ?_
        refine gdff ?_
        refine opv_dec (eqI _ _ _ _ _) (fun h5 => ?_) (fun h5 => ?_)
        · refine pickf ?_
          refine condt ?_
          first | refine opv_run (or6 _ (by omega) (by omega)) ?_ | refine opv_run (or8 _ (by omega) (by omega)) ?_
          first | refine opv_run (conv_u8 (by kernel_rfl) (by kernel_rfl) (by omega)) ?_ | refine opv_run (convII (k := .u8) (by kernel_rfl) (by kernel_rfl)) ?_
          exact ⟨retI (by unfold Gs.digitM; dsimp only; first | (rw [if_pos (by omega)] <;> omega) | (rw [if_neg (by omega)] <;> omega)), hF⟩
        · refine pickf ?_
          refine condf ?_
          first | refine opv_run (or6 _ (by omega) (by omega)) ?_ | refine opv_run (or8 _ (by omega) (by omega)) ?_
          first | refine opv_run (conv_u8 (by kernel_rfl) (by kernel_rfl) (by omega)) ?_ | refine opv_run (convII (k := .u8) (by kernel_rfl) (by kernel_rfl)) ?_
          exact ⟨retI (by unfold Gs.digitM; dsimp only; first | (rw [if_pos (by omega)] <;> omega) | (rw [if_neg (by omega)] <;> omega)), hF⟩
    · refine pickt ?_
      refine gdft ?_
      refine gdft ?_
      refine pickf ?_
      refine gdff ?_
      refine gdff ?_
      refine opv_dec (eqI _ _ _ _ _) (fun h8 => ?_) (fun h8 => ?_)
      · refine pickf ?_
        refine condt ?_
        first | refine opv_run (or6 _ (by omega) (by omega)) ?_ | refine opv_run (or8 _ (by omega) (by omega)) ?_
        first | refine opv_run (conv_u8 (by kernel_rfl) (by kernel_rfl) (by omega)) ?_ | refine opv_run (convII (k := .u8) (by kernel_rfl) (by kernel_rfl)) ?_
        exact ⟨retI (by unfold Gs.digitM; dsimp only; first | (rw [if_pos (by omega)] <;> omega) | (rw [if_neg (by omega)] <;> omega)), hF⟩
      · refine pickf ?_
        refine condf ?_
        first | refine opv_run (or6 _ (by omega) (by omega)) ?_ | refine opv_run (or8 _ (by omega) (by omega)) ?_
        first | refine opv_run (conv_u8 (by kernel_rfl) (by kernel_rfl) (by omega)) ?_ | refine opv_run (convII (k := .u8) (by kernel_rfl) (by kernel_rfl)) ?_
        exact ⟨retI (by unfold Gs.digitM; dsimp only; first | (rw [if_pos (by omega)] <;> omega) | (rw [if_neg (by omega)] <;> omega)), hF⟩
  · refine gdft ?_
    refine gdft ?_
    refine pickf ?_
    refine gdft ?_
    refine gdft ?_
    refine pickf ?_
    refine gdff ?_
    refine gdff ?_
    refine opv_dec (eqI _ _ _ _ _) (fun h11 => ?_) (fun h11 => ?_)
    · refine pickf ?_
      refine condt ?_
      first | refine opv_run (or6 _ (by omega) (by omega)) ?_ | refine opv_run (or8 _ (by omega) (by omega)) ?_
      first | refine opv_run (conv_u8 (by kernel_rfl) (by kernel_rfl) (by omega)) ?_ | refine opv_run (convII (k := .u8) (by kernel_rfl) (by kernel_rfl)) ?_
      exact ⟨retI (by unfold Gs.digitM; dsimp only; first | (rw [if_pos (by omega)] <;> omega) | (rw [if_neg (by omega)] <;> omega)), hF⟩
    · refine pickf ?_
      refine condf ?_
      first | refine opv_run (or6 _ (by omega) (by omega)) ?_ | refine opv_run (or8 _ (by omega) (by omega)) ?_
      first | refine opv_run (conv_u8 (by kernel_rfl) (by kernel_rfl) (by omega)) ?_ | refine opv_run (convII (k := .u8) (by kernel_rfl) (by kernel_rfl)) ?_
      exact ⟨retI (by unfold Gs.digitM; dsimp only; first | (rw [if_pos (by omega)] <;> omega) | (rw [if_neg (by omega)] <;> omega)), hF⟩

/-- greenscreen/addr.Value -/
theorem c_addr_Value {a : Int} {w : World} (ha : 0 ≤ a ∧ a ≤ 255) :
    Calls Tryz.prog 159 #[.int .u8 a] w fun e w' => e = .returned (.int .i64 (a % 64)) ∧ Upd no w w' := by
  refine F159.calls ?_
  unfold F159
  have hF : Upd no w w := Fr.refl _ _ _
  refine opv_run (and8_63 _ (by omega)) ?_
  first | refine opv_run (conv_i64 (by kernel_rfl) (by kernel_rfl) (by omega)) ?_ | refine opv_run (convII (k := .i64) (by kernel_rfl) (by kernel_rfl)) ?_
  exact ⟨rfl, hF⟩

/-- greenscreen/addr.Decode -/
theorem c_addr_Decode {a b : Int} {w : World} (ha : 0 ≤ a ∧ a ≤ 255) (hb : 0 ≤ b ∧ b ≤ 255) :
    Calls Tryz.prog 138 #[.int .u8 a, .int .u8 b] w fun e w' => e = .returned (.int .i64 (Gs.decodeM a b)) ∧ Upd no w w' := by
  refine F138.calls ?_
  unfold F138
  have hF : Upd no w w := Fr.refl _ _ _
  refine opv_run (andNot8_63 _ (by omega)) ?_
  refine opv_dec (eqI _ _ _ _ _) (fun h1 => ?_) (fun h1 => ?_)
  · refine condt ?_
    first | refine opv_run (conv_i64 (by kernel_rfl) (by kernel_rfl) (by omega)) ?_ | refine opv_run (convII (k := .i64) (by kernel_rfl) (by kernel_rfl)) ?_
    refine opv_run (shl8 _ (by omega)) ?_
    first | refine opv_run (conv_i64 (by kernel_rfl) (by kernel_rfl) (by omega)) ?_ | refine opv_run (convII (k := .i64) (by kernel_rfl) (by kernel_rfl)) ?_
    first | refine opv_run (or6 _ (by omega) (by omega)) ?_ | refine opv_run (or8 _ (by omega) (by omega)) ?_
    exact ⟨retI (by unfold Gs.decodeM; first | (rw [if_pos (by omega)] <;> omega) | (rw [if_neg (by omega)] <;> omega)), hF⟩
  · refine condf ?_
    refine callF_val (c_addr_Value ha) (fun w3 U3 => ?_)
    replace hF := hF.go0 U3
    refine opv_run (shl6 _ (by omega)) ?_
    refine callF_val (c_addr_Value hb) (fun w4 U4 => ?_)
    replace hF := hF.go0 U4
    first | refine opv_run (or6 _ (by omega) (by omega)) ?_ | refine opv_run (or8 _ (by omega) (by omega)) ?_
    exact ⟨retI (by unfold Gs.decodeM; first | (rw [if_pos (by omega)] <;> omega) | (rw [if_neg (by omega)] <;> omega)), hF⟩

/-- greenscreen/addr.Encode -/
theorem c_addr_Encode {p n : Int} {w : World} :
    Calls Tryz.prog 113 #[.int .i64 p, .int .i64 n] w fun e w' => e = .returned (.tuple #[.agg #[.int .u8 (Gs.encP p n).1, .int .u8 (Gs.encP p n).2.1], .int .i64 (Gs.encP p n).2.2]) ∧ Upd no w w' := by
  refine F113.calls ?_
  unfold F113
  have hF : Upd no w w := Fr.refl _ _ _
  refine alloc_intro (cs := #[.int .u8 0, .int .u8 0]) (by kernel_rfl) (fun b1 w1 e1 h_b1 _ U1 => ?_)
  have ge_b1 : w.heap.size ≤ b1 := by have := hF.size; omega
  replace hF := hF.go0 U1
  clear e1
  refine opv_dec (lss _ _ _ _) (fun h2 => ?_) (fun h2 => ?_)
  · refine gdtf ?_
    refine gdtf ?_
    refine pickt ?_
    refine gdtf ?_
    refine gdtf ?_
    refine pickt ?_
    refine gdtf ?_
    refine gdtf ?_
    refine gdtf ?_
    refine pickt ?_
    refine condt ?_
    refine opv_run (build_arr (n := 2) (m := 1) (z := #[.int .u8 0, .int .u8 0]) (by kernel_rfl) (by kernel_rfl) (by first | (simp [fillL, splice, repL, Value.cells, Gs.cv]; done) | (simp [fillL, splice, repL, Value.cells, Gs.cv]; rfl))) ?_
    refine store_intro (n := 2) (by kernel_rfl) (by rfl) (by first | rfl | (simp [Value.cells, Value.oneCell', Gs.cv]; done)) h_b1 (by first | exact Nat.le_of_ble_eq_true rfl | (simp; done) | omega) (by first | (simp; rfl) | rfl) (fun w3 N3 _ U3 => ?_)
    replace h_b1 := N3
    replace hF := hF.go1 U3 ge_b1
    refine ldv_run (ldA (n := 2) (by kernel_rfl) h_b1 (by first | exact Nat.le_of_ble_eq_true rfl | simp | omega) (by rfl)) ?_
    first | (rw [Gs.encP_out (by omega)]; exact ⟨rfl, hF⟩) | (rw [Gs.encP_big (by omega) (by omega)]; exact ⟨rfl, hF⟩) | (rw [Gs.encP_small (by omega) (by omega)]; exact ⟨rfl, hF⟩) | (rw [Gs.encP_small (by omega) (by omega), ← Gs.digit_mod p]; exact ⟨rfl, hF⟩)
  · refine gdff ?_
    refine gdff ?_
    refine opv_dec (gtr _ _ _ _) (fun h5 => ?_) (fun h5 => ?_)
    · refine pickf ?_
      refine gdtf ?_
      refine gdtf ?_
      refine pickt ?_
      refine gdtf ?_
      refine gdtf ?_
      refine gdtf ?_
      refine pickt ?_
      refine condt ?_
      refine opv_run (build_arr (n := 2) (m := 1) (z := #[.int .u8 0, .int .u8 0]) (by kernel_rfl) (by kernel_rfl) (by first | (simp [fillL, splice, repL, Value.cells, Gs.cv]; done) | (simp [fillL, splice, repL, Value.cells, Gs.cv]; rfl))) ?_
      refine store_intro (n := 2) (by kernel_rfl) (by rfl) (by first | rfl | (simp [Value.cells, Value.oneCell', Gs.cv]; done)) h_b1 (by first | exact Nat.le_of_ble_eq_true rfl | (simp; done) | omega) (by first | (simp; rfl) | rfl) (fun w6 N6 _ U6 => ?_)
      replace h_b1 := N6
      replace hF := hF.go1 U6 ge_b1
      refine ldv_run (ldA (n := 2) (by kernel_rfl) h_b1 (by first | exact Nat.le_of_ble_eq_true rfl | simp | omega) (by rfl)) ?_
      first | (rw [Gs.encP_out (by omega)]; exact ⟨rfl, hF⟩) | (rw [Gs.encP_big (by omega) (by omega)]; exact ⟨rfl, hF⟩) | (rw [Gs.encP_small (by omega) (by omega)]; exact ⟨rfl, hF⟩) | (rw [Gs.encP_small (by omega) (by omega), ← Gs.digit_mod p]; exact ⟨rfl, hF⟩)
    · refine pickf ?_
      refine gdff ?_
      refine gdff ?_
      refine opv_dec (lss _ _ _ _) (fun h8 => ?_) (fun h8 => ?_)
      · refine pickf ?_
        refine gdtf ?_
        refine gdtf ?_
        refine gdtf ?_
        refine pickt ?_
        refine condt ?_
        refine opv_run (build_arr (n := 2) (m := 1) (z := #[.int .u8 0, .int .u8 0]) (by kernel_rfl) (by kernel_rfl) (by first | (simp [fillL, splice, repL, Value.cells, Gs.cv]; done) | (simp [fillL, splice, repL, Value.cells, Gs.cv]; rfl))) ?_
        refine store_intro (n := 2) (by kernel_rfl) (by rfl) (by first | rfl | (simp [Value.cells, Value.oneCell', Gs.cv]; done)) h_b1 (by first | exact Nat.le_of_ble_eq_true rfl | (simp; done) | omega) (by first | (simp; rfl) | rfl) (fun w9 N9 _ U9 => ?_)
        replace h_b1 := N9
        replace hF := hF.go1 U9 ge_b1
        refine ldv_run (ldA (n := 2) (by kernel_rfl) h_b1 (by first | exact Nat.le_of_ble_eq_true rfl | simp | omega) (by rfl)) ?_
        first | (rw [Gs.encP_out (by omega)]; exact ⟨rfl, hF⟩) | (rw [Gs.encP_big (by omega) (by omega)]; exact ⟨rfl, hF⟩) | (rw [Gs.encP_small (by omega) (by omega)]; exact ⟨rfl, hF⟩) | (rw [Gs.encP_small (by omega) (by omega), ← Gs.digit_mod p]; exact ⟨rfl, hF⟩)
      · refine pickf ?_
        refine gdff ?_
        refine gdff ?_
        refine gdff ?_
        refine opv_dec (geq _ _ _ _) (fun h11 => ?_) (fun h11 => ?_)
        · refine pickf ?_
          refine condt ?_
          refine opv_run (build_arr (n := 2) (m := 1) (z := #[.int .u8 0, .int .u8 0]) (by kernel_rfl) (by kernel_rfl) (by first | (simp [fillL, splice, repL, Value.cells, Gs.cv]; done) | (simp [fillL, splice, repL, Value.cells, Gs.cv]; rfl))) ?_
          refine store_intro (n := 2) (by kernel_rfl) (by rfl) (by first | rfl | (simp [Value.cells, Value.oneCell', Gs.cv]; done)) h_b1 (by first | exact Nat.le_of_ble_eq_true rfl | (simp; done) | omega) (by first | (simp; rfl) | rfl) (fun w12 N12 _ U12 => ?_)
          replace h_b1 := N12
          replace hF := hF.go1 U12 ge_b1
          refine ldv_run (ldA (n := 2) (by kernel_rfl) h_b1 (by first | exact Nat.le_of_ble_eq_true rfl | simp | omega) (by rfl)) ?_
          first | (rw [Gs.encP_out (by omega)]; exact ⟨rfl, hF⟩) | (rw [Gs.encP_big (by omega) (by omega)]; exact ⟨rfl, hF⟩) | (rw [Gs.encP_small (by omega) (by omega)]; exact ⟨rfl, hF⟩) | (rw [Gs.encP_small (by omega) (by omega), ← Gs.digit_mod p]; exact ⟨rfl, hF⟩)
        · refine pickf ?_
          refine condf ?_
          refine opv_dec (gtr _ _ _ _) (fun h14 => ?_) (fun h14 => ?_)
          · refine condt ?_
            refine opv_run (shr8 _ _) ?_
            first | refine opv_run (conv_u8 (by kernel_rfl) (by kernel_rfl) (by omega)) ?_ | refine opv_run (convII (k := .u8) (by kernel_rfl) (by kernel_rfl)) ?_
            refine opv_run (conv_w8 (by kernel_rfl) (by kernel_rfl)) ?_
            refine opv_run (build_arr (n := 2) (m := 1) (z := #[.int .u8 0, .int .u8 0]) (by kernel_rfl) (by kernel_rfl) (by first | (simp [fillL, splice, repL, Value.cells, Gs.cv]; done) | (simp [fillL, splice, repL, Value.cells, Gs.cv]; rfl))) ?_
            refine store_intro (n := 2) (by kernel_rfl) (by rfl) (by first | rfl | (simp [Value.cells, Value.oneCell', Gs.cv]; done)) h_b1 (by first | exact Nat.le_of_ble_eq_true rfl | (simp; done) | omega) (by first | (simp; rfl) | rfl) (fun w16 N16 _ U16 => ?_)
            replace h_b1 := N16
            replace hF := hF.go1 U16 ge_b1
            refine ldv_run (ldA (n := 2) (by kernel_rfl) h_b1 (by first | exact Nat.le_of_ble_eq_true rfl | simp | omega) (by rfl)) ?_
            first | (rw [Gs.encP_out (by omega)]; exact ⟨rfl, hF⟩) | (rw [Gs.encP_big (by omega) (by omega)]; exact ⟨rfl, hF⟩) | (rw [Gs.encP_small (by omega) (by omega)]; exact ⟨rfl, hF⟩) | (rw [Gs.encP_small (by omega) (by omega), ← Gs.digit_mod p]; exact ⟨rfl, hF⟩)
          · refine condf ?_
            refine opv_run (shr6 _ _) ?_
            refine callF_val (c_addr_Digit (v := p / 64)) (fun w18 U18 => ?_)
            replace h_b1 := U18.get0 h_b1
            replace hF := hF.go0 U18
            refine callF_val (c_addr_Digit (v := p)) (fun w19 U19 => ?_)
            replace h_b1 := U19.get0 h_b1
            replace hF := hF.go0 U19
            refine opv_run (build_arr (n := 2) (m := 1) (z := #[.int .u8 0, .int .u8 0]) (by kernel_rfl) (by kernel_rfl) (by first | (simp [fillL, splice, repL, Value.cells, Gs.cv]; done) | (simp [fillL, splice, repL, Value.cells, Gs.cv]; rfl))) ?_
            refine store_intro (n := 2) (by kernel_rfl) (by rfl) (by first | rfl | (simp [Value.cells, Value.oneCell', Gs.cv]; done)) h_b1 (by first | exact Nat.le_of_ble_eq_true rfl | (simp; done) | omega) (by first | (simp; rfl) | rfl) (fun w20 N20 _ U20 => ?_)
            replace h_b1 := N20
            replace hF := hF.go1 U20 ge_b1
            refine ldv_run (ldA (n := 2) (by kernel_rfl) h_b1 (by first | exact Nat.le_of_ble_eq_true rfl | simp | omega) (by rfl)) ?_
            first | (rw [Gs.encP_out (by omega)]; exact ⟨rfl, hF⟩) | (rw [Gs.encP_big (by omega) (by omega)]; exact ⟨rfl, hF⟩) | (rw [Gs.encP_small (by omega) (by omega)]; exact ⟨rfl, hF⟩) | (rw [Gs.encP_small (by omega) (by omega), ← Gs.digit_mod p]; exact ⟨rfl, hF⟩)

/-- greenscreen/order.Plain -/
theorem c_order_Plain {b : Int} {w : World} :
    Calls Tryz.prog 115 #[.int .u8 b] w fun e w' => e = .returned (.bool (Gs.plainB b)) ∧ Upd no w w' := by
  refine F115.calls ?_
  unfold F115
  have hF : Upd no w w := Fr.refl _ _ _
  refine join_cut (fun g w' => ∃ (q : Bool), (g 4 = .bool q) ∧ (q = decide (b = 0 ∨ b = 12 ∨ b = 13 ∨ b = 21 ∨ b = 25 ∨ b = 28 ∨ b = 30 ∨ b = 63)) ∧ (Upd no w w')) (fun J1 hJ1 => ?_) (fun gJ1 wJ1 hI => ?_)
  · refine opv_dec (eqI _ _ _ _ _) (fun h1 => ?_) (fun h1 => ?_)
    · refine condt ?_
      refine hJ1 _ _ ?_
      exact ⟨_, (by first | exact g4 | rfl), (by first | exact (decide_eq_true (by omega)).symm | exact (decide_eq_false (by omega)).symm | exact decide_eq_decide.2 (by omega)), hF⟩
    · refine condf ?_
      refine opv_dec (eqI _ _ _ _ _) (fun h2 => ?_) (fun h2 => ?_)
      · refine condt ?_
        refine hJ1 _ _ ?_
        exact ⟨_, (by first | exact g4 | rfl), (by first | exact (decide_eq_true (by omega)).symm | exact (decide_eq_false (by omega)).symm | exact decide_eq_decide.2 (by omega)), hF⟩
      · refine condf ?_
        refine opv_dec (eqI _ _ _ _ _) (fun h3 => ?_) (fun h3 => ?_)
        · refine condt ?_
          refine hJ1 _ _ ?_
          exact ⟨_, (by first | exact g4 | rfl), (by first | exact (decide_eq_true (by omega)).symm | exact (decide_eq_false (by omega)).symm | exact decide_eq_decide.2 (by omega)), hF⟩
        · refine condf ?_
          refine opv_dec (eqI _ _ _ _ _) (fun h4 => ?_) (fun h4 => ?_)
          · refine condt ?_
            refine hJ1 _ _ ?_
            exact ⟨_, (by first | exact g4 | rfl), (by first | exact (decide_eq_true (by omega)).symm | exact (decide_eq_false (by omega)).symm | exact decide_eq_decide.2 (by omega)), hF⟩
          · refine condf ?_
            refine opv_dec (eqI _ _ _ _ _) (fun h5 => ?_) (fun h5 => ?_)
            · refine condt ?_
              refine hJ1 _ _ ?_
              exact ⟨_, (by first | exact g4 | rfl), (by first | exact (decide_eq_true (by omega)).symm | exact (decide_eq_false (by omega)).symm | exact decide_eq_decide.2 (by omega)), hF⟩
            · refine condf ?_
              refine opv_dec (eqI _ _ _ _ _) (fun h6 => ?_) (fun h6 => ?_)
              · refine condt ?_
                refine hJ1 _ _ ?_
                exact ⟨_, (by first | exact g4 | rfl), (by first | exact (decide_eq_true (by omega)).symm | exact (decide_eq_false (by omega)).symm | exact decide_eq_decide.2 (by omega)), hF⟩
              · refine condf ?_
                refine opv_dec (eqI _ _ _ _ _) (fun h7 => ?_) (fun h7 => ?_)
                · refine condt ?_
                  refine hJ1 _ _ ?_
                  exact ⟨_, (by first | exact g4 | rfl), (by first | exact (decide_eq_true (by omega)).symm | exact (decide_eq_false (by omega)).symm | exact decide_eq_decide.2 (by omega)), hF⟩
                · refine condf ?_
                  refine opv_dec (eqI _ _ _ _ _) (fun h8 => ?_) (fun h8 => ?_)
                  · refine hJ1 _ _ ?_
                    exact ⟨_, (by first | exact g4 | rfl), (by first | exact (decide_eq_true (by omega)).symm | exact (decide_eq_false (by omega)).symm | exact decide_eq_decide.2 (by omega)), hF⟩
                  · refine hJ1 _ _ ?_
                    exact ⟨_, (by first | exact g4 | rfl), (by first | exact (decide_eq_true (by omega)).symm | exact (decide_eq_false (by omega)).symm | exact decide_eq_decide.2 (by omega)), hF⟩
  · obtain ⟨q, g4, hq, hF⟩ := hI
    try rw [g4]
    refine cond_intro (fun h9 => ?_) (fun h9 => ?_)
    · try simp only [decide_eq_true_eq, decide_eq_false_iff_not] at h9
      first | (rw [Gs.plain_list (of_decide_eq_true (hq.symm.trans (by assumption)))]; exact ⟨rfl, hF⟩) | (rw [Gs.plain_ge (of_decide_eq_false (hq.symm.trans (by assumption)))]; exact ⟨rfl, hF⟩)
    · try simp only [decide_eq_true_eq, decide_eq_false_iff_not] at h9
      refine opv_run (geq _ _ _ _) ?_
      first | (rw [Gs.plain_list (of_decide_eq_true (hq.symm.trans (by assumption)))]; exact ⟨rfl, hF⟩) | (rw [Gs.plain_ge (of_decide_eq_false (hq.symm.trans (by assumption)))]; exact ⟨rfl, hF⟩)

/-- greenscreen/grammar.sign -/
theorem c_grammar_sign {page : Int} {c : Gs.Cell} {w : World} (hc : 0 ≤ c.b ∧ c.b ≤ 255) :
    Calls Tryz.prog 78 #[.int .i64 page, .agg (Gs.cv c).toArray] w fun e w' => e = .returned (.string (Utf8.encode (Gs.sign1 page c))) ∧ Upd no w w' := by
  refine F78.calls ?_
  unfold F78
  have hF : Upd no w w := Fr.refl _ _ _
  refine box_intro (cs := (Gs.cv c).toArray) (by rfl) (fun b1 w1 e1 h_b1 _ U1 => ?_)
  have ge_b1 : w.heap.size ≤ b1 := by have := hF.size; omega
  replace hF := hF.go0 U1
  clear e1
  refine opv_run (fieldAt_eq (off := 2) (by kernel_rfl)) ?_
  refine opv_b (ldC (by kernel_rfl) h_b1 (by rfl)) (fun h2 => ?_) (fun h2 => ?_)
  · refine gdtf ?_
    refine gdtf ?_
    refine gdtf ?_
    refine gdtf ?_
    refine gdun ?_
    refine gdun ?_
    refine gdun ?_
    refine gdun ?_
    refine gdtf ?_
    refine pickt ?_
    refine condt ?_
    exact ⟨congrArg (fun r => Ending.returned (.string r)) (by first | exact (Gs.sign1_sp (by first | exact .inl (by assumption) | exact .inr ⟨by assumption, by omega⟩)) | exact (congrArg Utf8.encode (Gs.sign1_ge (by simp_all) (by assumption))).symm | exact (congrArg Utf8.encode (Gs.sign1_on (by simp_all) (by simp_all) (by omega))).symm | exact absurd (Eq.trans (Eq.symm (show c.ge = true by assumption)) (show c.ge = false by assumption)) (by decide)), hF⟩
  · refine gdff ?_
    refine opv_run (fieldAt_eq (off := 1) (by kernel_rfl)) ?_
    refine gdff ?_
    refine opv_b (ldC (by kernel_rfl) h_b1 (by rfl)) (fun h4 => ?_) (fun h4 => ?_)
    · refine gdff ?_
      refine opv_run (notT) ?_
      refine gdff ?_
      refine gdft ?_
      refine gdft ?_
      refine gdft ?_
      refine gdft ?_
      refine gdff ?_
      refine pickf ?_
      refine pickf ?_
      refine condf ?_
      refine opv_run (fieldAt_eq (off := 1) (by kernel_rfl)) ?_
      refine opv_b (ldC (by kernel_rfl) h_b1 (by rfl)) (fun h5 => ?_) (fun h5 => ?_)
      · refine condt ?_
        refine opv_run (fieldAt_eq (off := 0) (by kernel_rfl)) ?_
        refine opv_run (ldC (by kernel_rfl) h_b1 (by rfl)) ?_
        refine callF_val (c_code_Special (by omega) (by omega)) (fun w6 U6 => ?_)
        replace h_b1 := U6.get0 h_b1
        replace hF := hF.go0 U6
        refine opv_run (convIS (by kernel_rfl) (by kernel_rfl)) ?_
        exact ⟨congrArg (fun r => Ending.returned (.string r)) (by first | exact (Gs.sign1_sp (by first | exact .inl (by assumption) | exact .inr ⟨by assumption, by omega⟩)) | exact (congrArg Utf8.encode (Gs.sign1_ge (by simp_all) (by assumption))).symm | exact (congrArg Utf8.encode (Gs.sign1_on (by simp_all) (by simp_all) (by omega))).symm | exact absurd (Eq.trans (Eq.symm (show c.ge = true by assumption)) (show c.ge = false by assumption)) (by decide)), hF⟩
      · refine condf ?_
        refine opv_run (fieldAt_eq (off := 0) (by kernel_rfl)) ?_
        refine opv_run (ldC (by kernel_rfl) h_b1 (by rfl)) ?_
        refine callF_val (c_code_Sign (by omega) (by omega)) (fun w8 U8 => ?_)
        replace h_b1 := U8.get0 h_b1
        replace hF := hF.go0 U8
        refine opv_run (convIS (by kernel_rfl) (by kernel_rfl)) ?_
        exact ⟨congrArg (fun r => Ending.returned (.string r)) (by first | exact (Gs.sign1_sp (by first | exact .inl (by assumption) | exact .inr ⟨by assumption, by omega⟩)) | exact (congrArg Utf8.encode (Gs.sign1_ge (by simp_all) (by assumption))).symm | exact (congrArg Utf8.encode (Gs.sign1_on (by simp_all) (by simp_all) (by omega))).symm | exact absurd (Eq.trans (Eq.symm (show c.ge = true by assumption)) (show c.ge = false by assumption)) (by decide)), hF⟩
    · refine gdff ?_
      refine opv_run (notF) ?_
      refine gdff ?_
      refine gdtt ?_
      refine opv_run (fieldAt_eq (off := 0) (by kernel_rfl)) ?_
      refine gdtt ?_
      refine opv_run (ldC (by kernel_rfl) h_b1 (by rfl)) ?_
      refine gdtt ?_
      refine callF_bool (c_code_Graphic) (fun w10 U10 h10 => ?_) (fun w10 U10 h10 => ?_)
      · replace h_b1 := U10.get0 h_b1
        replace hF := hF.go0 U10
        try simp only [decide_eq_true_eq, decide_eq_false_iff_not] at h10
        refine gdtt ?_
        refine opv_run (notT) ?_
        refine gdff ?_
        refine pickt ?_
        refine pickf ?_
        refine condf ?_
        refine opv_run (fieldAt_eq (off := 1) (by kernel_rfl)) ?_
        refine opv_b (ldC (by kernel_rfl) h_b1 (by rfl)) (fun h11 => ?_) (fun h11 => ?_)
        · refine condt ?_
          refine opv_run (fieldAt_eq (off := 0) (by kernel_rfl)) ?_
          refine opv_run (ldC (by kernel_rfl) h_b1 (by rfl)) ?_
          refine callF_val (c_code_Special (by omega) (by omega)) (fun w12 U12 => ?_)
          replace h_b1 := U12.get0 h_b1
          replace hF := hF.go0 U12
          refine opv_run (convIS (by kernel_rfl) (by kernel_rfl)) ?_
          exact ⟨congrArg (fun r => Ending.returned (.string r)) (by first | exact (Gs.sign1_sp (by first | exact .inl (by assumption) | exact .inr ⟨by assumption, by omega⟩)) | exact (congrArg Utf8.encode (Gs.sign1_ge (by simp_all) (by assumption))).symm | exact (congrArg Utf8.encode (Gs.sign1_on (by simp_all) (by simp_all) (by omega))).symm | exact absurd (Eq.trans (Eq.symm (show c.ge = true by assumption)) (show c.ge = false by assumption)) (by decide)), hF⟩
        · refine condf ?_
          refine opv_run (fieldAt_eq (off := 0) (by kernel_rfl)) ?_
          refine opv_run (ldC (by kernel_rfl) h_b1 (by rfl)) ?_
          refine callF_val (c_code_Sign (by omega) (by omega)) (fun w14 U14 => ?_)
          replace h_b1 := U14.get0 h_b1
          replace hF := hF.go0 U14
          refine opv_run (convIS (by kernel_rfl) (by kernel_rfl)) ?_
          exact ⟨congrArg (fun r => Ending.returned (.string r)) (by first | exact (Gs.sign1_sp (by first | exact .inl (by assumption) | exact .inr ⟨by assumption, by omega⟩)) | exact (congrArg Utf8.encode (Gs.sign1_ge (by simp_all) (by assumption))).symm | exact (congrArg Utf8.encode (Gs.sign1_on (by simp_all) (by simp_all) (by omega))).symm | exact absurd (Eq.trans (Eq.symm (show c.ge = true by assumption)) (show c.ge = false by assumption)) (by decide)), hF⟩
      · replace h_b1 := U10.get0 h_b1
        replace hF := hF.go0 U10
        try simp only [decide_eq_true_eq, decide_eq_false_iff_not] at h10
        refine gdtt ?_
        refine opv_run (notF) ?_
        refine gdff ?_
        refine pickt ?_
        refine pickf ?_
        refine condt ?_
        exact ⟨congrArg (fun r => Ending.returned (.string r)) (by first | exact (Gs.sign1_sp (by first | exact .inl (by assumption) | exact .inr ⟨by assumption, by omega⟩)) | exact (congrArg Utf8.encode (Gs.sign1_ge (by simp_all) (by assumption))).symm | exact (congrArg Utf8.encode (Gs.sign1_on (by simp_all) (by simp_all) (by omega))).symm | exact absurd (Eq.trans (Eq.symm (show c.ge = true by assumption)) (show c.ge = false by assumption)) (by decide)), hF⟩

/-- greenscreen/keyboard.function -/
theorem c_keyboard_function {b : Int} {w : World} (hb : 0 ≤ b ∧ b ≤ 255) :
    Calls Tryz.prog 81 #[.int .u8 b] w fun e w' => e = .returned (.int .i64 (Gs.attN b)) ∧ Upd no w w' := by
  refine F81.calls ?_
  unfold F81
  have hF : Upd no w w := Fr.refl _ _ _
  refine join_cut (fun g w' => (g 3 = .int .i64 (Gs.attN b)) ∧ (Upd no w w')) (fun J1 hJ1 => ?_) (fun gJ1 wJ1 hI => ?_)
  · refine opv_dec (geq _ _ _ _) (fun h1 => ?_) (fun h1 => ?_)
    · refine gdtt ?_
      refine gdtt ?_
      refine opv_dec (leq _ _ _ _) (fun h2 => ?_) (fun h2 => ?_)
      · refine pickt ?_
        refine condt ?_
        first | refine opv_run (sub_u8 _ (by omega)) ?_ | refine opv_run (subI _ _ _ _) ?_
        first | refine opv_run (conv_i64 (by kernel_rfl) (by kernel_rfl) (by omega)) ?_ | refine opv_run (convII (k := .i64) (by kernel_rfl) (by kernel_rfl)) ?_
        refine hJ1 _ _ ?_
        exact ⟨(congrArg (Value.int .i64) (by unfold Gs.attN; first | (rw [if_pos (by omega)] <;> omega) | (rw [if_neg (by omega), if_pos (by omega)] <;> omega) | (rw [if_neg (by omega), if_neg (by omega), if_pos (by omega)] <;> omega) | (rw [if_neg (by omega), if_neg (by omega), if_neg (by omega), if_pos (by omega)] <;> omega) | (rw [if_neg (by omega), if_neg (by omega), if_neg (by omega), if_neg (by omega)]))), hF⟩
      · refine pickt ?_
        refine condf ?_
        refine opv_dec (geq _ _ _ _) (fun h3 => ?_) (fun h3 => ?_)
        · refine gdtt ?_
          refine gdtt ?_
          refine opv_dec (leq _ _ _ _) (fun h4 => ?_) (fun h4 => ?_)
          · refine pickt ?_
            refine condt ?_
            first | refine opv_run (sub_u8 _ (by omega)) ?_ | refine opv_run (subI _ _ _ _) ?_
            first | refine opv_run (conv_i64 (by kernel_rfl) (by kernel_rfl) (by omega)) ?_ | refine opv_run (convII (k := .i64) (by kernel_rfl) (by kernel_rfl)) ?_
            first | refine opv_run (add_i64 _ (by omega)) ?_ | refine opv_run (addI _ _ _ _) ?_
            refine hJ1 _ _ ?_
            exact ⟨(congrArg (Value.int .i64) (by unfold Gs.attN; first | (rw [if_pos (by omega)] <;> omega) | (rw [if_neg (by omega), if_pos (by omega)] <;> omega) | (rw [if_neg (by omega), if_neg (by omega), if_pos (by omega)] <;> omega) | (rw [if_neg (by omega), if_neg (by omega), if_neg (by omega), if_pos (by omega)] <;> omega) | (rw [if_neg (by omega), if_neg (by omega), if_neg (by omega), if_neg (by omega)]))), hF⟩
          · refine pickt ?_
            refine condf ?_
            refine opv_dec (geq _ _ _ _) (fun h5 => ?_) (fun h5 => ?_)
            · refine gdtt ?_
              refine gdtt ?_
              refine opv_dec (leq _ _ _ _) (fun h6 => ?_) (fun h6 => ?_)
              · refine pickt ?_
                refine condt ?_
                first | refine opv_run (sub_u8 _ (by omega)) ?_ | refine opv_run (subI _ _ _ _) ?_
                first | refine opv_run (conv_i64 (by kernel_rfl) (by kernel_rfl) (by omega)) ?_ | refine opv_run (convII (k := .i64) (by kernel_rfl) (by kernel_rfl)) ?_
                first | refine opv_run (add_i64 _ (by omega)) ?_ | refine opv_run (addI _ _ _ _) ?_
                refine hJ1 _ _ ?_
                exact ⟨(congrArg (Value.int .i64) (by unfold Gs.attN; first | (rw [if_pos (by omega)] <;> omega) | (rw [if_neg (by omega), if_pos (by omega)] <;> omega) | (rw [if_neg (by omega), if_neg (by omega), if_pos (by omega)] <;> omega) | (rw [if_neg (by omega), if_neg (by omega), if_neg (by omega), if_pos (by omega)] <;> omega) | (rw [if_neg (by omega), if_neg (by omega), if_neg (by omega), if_neg (by omega)]))), hF⟩
              · refine pickt ?_
                refine condf ?_
                refine opv_dec (geq _ _ _ _) (fun h7 => ?_) (fun h7 => ?_)
                · refine gdtt ?_
                  refine gdtt ?_
                  refine opv_dec (leq _ _ _ _) (fun h8 => ?_) (fun h8 => ?_)
                  · refine pickt ?_
                    refine condt ?_
                    first | refine opv_run (sub_u8 _ (by omega)) ?_ | refine opv_run (subI _ _ _ _) ?_
                    first | refine opv_run (conv_i64 (by kernel_rfl) (by kernel_rfl) (by omega)) ?_ | refine opv_run (convII (k := .i64) (by kernel_rfl) (by kernel_rfl)) ?_
                    first | refine opv_run (add_i64 _ (by omega)) ?_ | refine opv_run (addI _ _ _ _) ?_
                    refine hJ1 _ _ ?_
                    exact ⟨(congrArg (Value.int .i64) (by unfold Gs.attN; first | (rw [if_pos (by omega)] <;> omega) | (rw [if_neg (by omega), if_pos (by omega)] <;> omega) | (rw [if_neg (by omega), if_neg (by omega), if_pos (by omega)] <;> omega) | (rw [if_neg (by omega), if_neg (by omega), if_neg (by omega), if_pos (by omega)] <;> omega) | (rw [if_neg (by omega), if_neg (by omega), if_neg (by omega), if_neg (by omega)]))), hF⟩
                  · refine pickt ?_
                    refine condf ?_
                    refine hJ1 _ _ ?_
                    exact ⟨(congrArg (Value.int .i64) (by unfold Gs.attN; first | (rw [if_pos (by omega)] <;> omega) | (rw [if_neg (by omega), if_pos (by omega)] <;> omega) | (rw [if_neg (by omega), if_neg (by omega), if_pos (by omega)] <;> omega) | (rw [if_neg (by omega), if_neg (by omega), if_neg (by omega), if_pos (by omega)] <;> omega) | (rw [if_neg (by omega), if_neg (by omega), if_neg (by omega), if_neg (by omega)]))), hF⟩
                · refine gdft ?_
                  refine gdft ?_
                  refine pickf ?_
                  refine condf ?_
                  refine hJ1 _ _ ?_
                  exact ⟨(congrArg (Value.int .i64) (by unfold Gs.attN; first | (rw [if_pos (by omega)] <;> omega) | (rw [if_neg (by omega), if_pos (by omega)] <;> omega) | (rw [if_neg (by omega), if_neg (by omega), if_pos (by omega)] <;> omega) | (rw [if_neg (by omega), if_neg (by omega), if_neg (by omega), if_pos (by omega)] <;> omega) | (rw [if_neg (by omega), if_neg (by omega), if_neg (by omega), if_neg (by omega)]))), hF⟩
            · refine gdft ?_
              refine gdft ?_
              refine pickf ?_
              refine condf ?_
              refine opv_dec (geq _ _ _ _) (fun h9 => ?_) (fun h9 => ?_)
              · refine gdtt ?_
                refine gdtt ?_
                refine opv_dec (leq _ _ _ _) (fun h10 => ?_) (fun h10 => ?_)
                · refine pickt ?_
                  refine condt ?_
                  first | refine opv_run (sub_u8 _ (by omega)) ?_ | refine opv_run (subI _ _ _ _) ?_
                  first | refine opv_run (conv_i64 (by kernel_rfl) (by kernel_rfl) (by omega)) ?_ | refine opv_run (convII (k := .i64) (by kernel_rfl) (by kernel_rfl)) ?_
                  first | refine opv_run (add_i64 _ (by omega)) ?_ | refine opv_run (addI _ _ _ _) ?_
                  refine hJ1 _ _ ?_
                  exact ⟨(congrArg (Value.int .i64) (by unfold Gs.attN; first | (rw [if_pos (by omega)] <;> omega) | (rw [if_neg (by omega), if_pos (by omega)] <;> omega) | (rw [if_neg (by omega), if_neg (by omega), if_pos (by omega)] <;> omega) | (rw [if_neg (by omega), if_neg (by omega), if_neg (by omega), if_pos (by omega)] <;> omega) | (rw [if_neg (by omega), if_neg (by omega), if_neg (by omega), if_neg (by omega)]))), hF⟩
                · refine pickt ?_
                  refine condf ?_
                  refine hJ1 _ _ ?_
                  exact ⟨(congrArg (Value.int .i64) (by unfold Gs.attN; first | (rw [if_pos (by omega)] <;> omega) | (rw [if_neg (by omega), if_pos (by omega)] <;> omega) | (rw [if_neg (by omega), if_neg (by omega), if_pos (by omega)] <;> omega) | (rw [if_neg (by omega), if_neg (by omega), if_neg (by omega), if_pos (by omega)] <;> omega) | (rw [if_neg (by omega), if_neg (by omega), if_neg (by omega), if_neg (by omega)]))), hF⟩
              · refine gdft ?_
                refine gdft ?_
                refine pickf ?_
                refine condf ?_
                refine hJ1 _ _ ?_
                exact ⟨(congrArg (Value.int .i64) (by unfold Gs.attN; first | (rw [if_pos (by omega)] <;> omega) | (rw [if_neg (by omega), if_pos (by omega)] <;> omega) | (rw [if_neg (by omega), if_neg (by omega), if_pos (by omega)] <;> omega) | (rw [if_neg (by omega), if_neg (by omega), if_neg (by omega), if_pos (by omega)] <;> omega) | (rw [if_neg (by omega), if_neg (by omega), if_neg (by omega), if_neg (by omega)]))), hF⟩
        · refine gdft ?_
          refine gdft ?_
          refine pickf ?_
          refine condf ?_
          refine opv_dec (geq _ _ _ _) (fun h11 => ?_) (fun h11 => ?_)
          · refine gdtt ?_
            refine gdtt ?_
            refine opv_dec (leq _ _ _ _) (fun h12 => ?_) (fun h12 => ?_)
            · refine pickt ?_
              refine condt ?_
              first | refine opv_run (sub_u8 _ (by omega)) ?_ | refine opv_run (subI _ _ _ _) ?_
              first | refine opv_run (conv_i64 (by kernel_rfl) (by kernel_rfl) (by omega)) ?_ | refine opv_run (convII (k := .i64) (by kernel_rfl) (by kernel_rfl)) ?_
              first | refine opv_run (add_i64 _ (by omega)) ?_ | refine opv_run (addI _ _ _ _) ?_
              refine hJ1 _ _ ?_
              exact ⟨(congrArg (Value.int .i64) (by unfold Gs.attN; first | (rw [if_pos (by omega)] <;> omega) | (rw [if_neg (by omega), if_pos (by omega)] <;> omega) | (rw [if_neg (by omega), if_neg (by omega), if_pos (by omega)] <;> omega) | (rw [if_neg (by omega), if_neg (by omega), if_neg (by omega), if_pos (by omega)] <;> omega) | (rw [if_neg (by omega), if_neg (by omega), if_neg (by omega), if_neg (by omega)]))), hF⟩
            · refine pickt ?_
              refine condf ?_
              refine opv_dec (geq _ _ _ _) (fun h13 => ?_) (fun h13 => ?_)
              · refine gdtt ?_
                refine gdtt ?_
                refine opv_dec (leq _ _ _ _) (fun h14 => ?_) (fun h14 => ?_)
                · refine pickt ?_
                  refine condt ?_
                  first | refine opv_run (sub_u8 _ (by omega)) ?_ | refine opv_run (subI _ _ _ _) ?_
                  first | refine opv_run (conv_i64 (by kernel_rfl) (by kernel_rfl) (by omega)) ?_ | refine opv_run (convII (k := .i64) (by kernel_rfl) (by kernel_rfl)) ?_
                  first | refine opv_run (add_i64 _ (by omega)) ?_ | refine opv_run (addI _ _ _ _) ?_
                  refine hJ1 _ _ ?_
                  exact ⟨(congrArg (Value.int .i64) (by unfold Gs.attN; first | (rw [if_pos (by omega)] <;> omega) | (rw [if_neg (by omega), if_pos (by omega)] <;> omega) | (rw [if_neg (by omega), if_neg (by omega), if_pos (by omega)] <;> omega) | (rw [if_neg (by omega), if_neg (by omega), if_neg (by omega), if_pos (by omega)] <;> omega) | (rw [if_neg (by omega), if_neg (by omega), if_neg (by omega), if_neg (by omega)]))), hF⟩
                · refine pickt ?_
                  refine condf ?_
                  refine hJ1 _ _ ?_
                  exact ⟨(congrArg (Value.int .i64) (by unfold Gs.attN; first | (rw [if_pos (by omega)] <;> omega) | (rw [if_neg (by omega), if_pos (by omega)] <;> omega) | (rw [if_neg (by omega), if_neg (by omega), if_pos (by omega)] <;> omega) | (rw [if_neg (by omega), if_neg (by omega), if_neg (by omega), if_pos (by omega)] <;> omega) | (rw [if_neg (by omega), if_neg (by omega), if_neg (by omega), if_neg (by omega)]))), hF⟩
              · refine gdft ?_
                refine gdft ?_
                refine pickf ?_
                refine condf ?_
                refine hJ1 _ _ ?_
                exact ⟨(congrArg (Value.int .i64) (by unfold Gs.attN; first | (rw [if_pos (by omega)] <;> omega) | (rw [if_neg (by omega), if_pos (by omega)] <;> omega) | (rw [if_neg (by omega), if_neg (by omega), if_pos (by omega)] <;> omega) | (rw [if_neg (by omega), if_neg (by omega), if_neg (by omega), if_pos (by omega)] <;> omega) | (rw [if_neg (by omega), if_neg (by omega), if_neg (by omega), if_neg (by omega)]))), hF⟩
          · refine gdft ?_
            refine gdft ?_
            refine pickf ?_
            refine condf ?_
            refine opv_dec (geq _ _ _ _) (fun h15 => ?_) (fun h15 => ?_)
            · refine gdtt ?_
              refine gdtt ?_
              refine opv_dec (leq _ _ _ _) (fun h16 => ?_) (fun h16 => ?_)
              · refine pickt ?_
                refine condt ?_
                first | refine opv_run (sub_u8 _ (by omega)) ?_ | refine opv_run (subI _ _ _ _) ?_
                first | refine opv_run (conv_i64 (by kernel_rfl) (by kernel_rfl) (by omega)) ?_ | refine opv_run (convII (k := .i64) (by kernel_rfl) (by kernel_rfl)) ?_
                first | refine opv_run (add_i64 _ (by omega)) ?_ | refine opv_run (addI _ _ _ _) ?_
                refine hJ1 _ _ ?_
                exact ⟨(congrArg (Value.int .i64) (by unfold Gs.attN; first | (rw [if_pos (by omega)] <;> omega) | (rw [if_neg (by omega), if_pos (by omega)] <;> omega) | (rw [if_neg (by omega), if_neg (by omega), if_pos (by omega)] <;> omega) | (rw [if_neg (by omega), if_neg (by omega), if_neg (by omega), if_pos (by omega)] <;> omega) | (rw [if_neg (by omega), if_neg (by omega), if_neg (by omega), if_neg (by omega)]))), hF⟩
              · refine pickt ?_
                refine condf ?_
                refine hJ1 _ _ ?_
                exact ⟨(congrArg (Value.int .i64) (by unfold Gs.attN; first | (rw [if_pos (by omega)] <;> omega) | (rw [if_neg (by omega), if_pos (by omega)] <;> omega) | (rw [if_neg (by omega), if_neg (by omega), if_pos (by omega)] <;> omega) | (rw [if_neg (by omega), if_neg (by omega), if_neg (by omega), if_pos (by omega)] <;> omega) | (rw [if_neg (by omega), if_neg (by omega), if_neg (by omega), if_neg (by omega)]))), hF⟩
            · refine gdft ?_
              refine gdft ?_
              refine pickf ?_
              refine condf ?_
              refine hJ1 _ _ ?_
              exact ⟨(congrArg (Value.int .i64) (by unfold Gs.attN; first | (rw [if_pos (by omega)] <;> omega) | (rw [if_neg (by omega), if_pos (by omega)] <;> omega) | (rw [if_neg (by omega), if_neg (by omega), if_pos (by omega)] <;> omega) | (rw [if_neg (by omega), if_neg (by omega), if_neg (by omega), if_pos (by omega)] <;> omega) | (rw [if_neg (by omega), if_neg (by omega), if_neg (by omega), if_neg (by omega)]))), hF⟩
    · refine gdft ?_
      refine gdft ?_
      refine pickf ?_
      refine condf ?_
      refine opv_dec (geq _ _ _ _) (fun h17 => ?_) (fun h17 => ?_)
      · refine gdtt ?_
        refine gdtt ?_
        refine opv_dec (leq _ _ _ _) (fun h18 => ?_) (fun h18 => ?_)
        · refine pickt ?_
          refine condt ?_
          first | refine opv_run (sub_u8 _ (by omega)) ?_ | refine opv_run (subI _ _ _ _) ?_
          first | refine opv_run (conv_i64 (by kernel_rfl) (by kernel_rfl) (by omega)) ?_ | refine opv_run (convII (k := .i64) (by kernel_rfl) (by kernel_rfl)) ?_
          first | refine opv_run (add_i64 _ (by omega)) ?_ | refine opv_run (addI _ _ _ _) ?_
          refine hJ1 _ _ ?_
          exact ⟨(congrArg (Value.int .i64) (by unfold Gs.attN; first | (rw [if_pos (by omega)] <;> omega) | (rw [if_neg (by omega), if_pos (by omega)] <;> omega) | (rw [if_neg (by omega), if_neg (by omega), if_pos (by omega)] <;> omega) | (rw [if_neg (by omega), if_neg (by omega), if_neg (by omega), if_pos (by omega)] <;> omega) | (rw [if_neg (by omega), if_neg (by omega), if_neg (by omega), if_neg (by omega)]))), hF⟩
        · refine pickt ?_
          refine condf ?_
          refine opv_dec (geq _ _ _ _) (fun h19 => ?_) (fun h19 => ?_)
          · refine gdtt ?_
            refine gdtt ?_
            refine opv_dec (leq _ _ _ _) (fun h20 => ?_) (fun h20 => ?_)
            · refine pickt ?_
              refine condt ?_
              first | refine opv_run (sub_u8 _ (by omega)) ?_ | refine opv_run (subI _ _ _ _) ?_
              first | refine opv_run (conv_i64 (by kernel_rfl) (by kernel_rfl) (by omega)) ?_ | refine opv_run (convII (k := .i64) (by kernel_rfl) (by kernel_rfl)) ?_
              first | refine opv_run (add_i64 _ (by omega)) ?_ | refine opv_run (addI _ _ _ _) ?_
              refine hJ1 _ _ ?_
              exact ⟨(congrArg (Value.int .i64) (by unfold Gs.attN; first | (rw [if_pos (by omega)] <;> omega) | (rw [if_neg (by omega), if_pos (by omega)] <;> omega) | (rw [if_neg (by omega), if_neg (by omega), if_pos (by omega)] <;> omega) | (rw [if_neg (by omega), if_neg (by omega), if_neg (by omega), if_pos (by omega)] <;> omega) | (rw [if_neg (by omega), if_neg (by omega), if_neg (by omega), if_neg (by omega)]))), hF⟩
            · refine pickt ?_
              refine condf ?_
              refine opv_dec (geq _ _ _ _) (fun h21 => ?_) (fun h21 => ?_)
              · refine gdtt ?_
                refine gdtt ?_
                refine opv_dec (leq _ _ _ _) (fun h22 => ?_) (fun h22 => ?_)
                · refine pickt ?_
                  refine condt ?_
                  first | refine opv_run (sub_u8 _ (by omega)) ?_ | refine opv_run (subI _ _ _ _) ?_
                  first | refine opv_run (conv_i64 (by kernel_rfl) (by kernel_rfl) (by omega)) ?_ | refine opv_run (convII (k := .i64) (by kernel_rfl) (by kernel_rfl)) ?_
                  first | refine opv_run (add_i64 _ (by omega)) ?_ | refine opv_run (addI _ _ _ _) ?_
                  refine hJ1 _ _ ?_
                  exact ⟨(congrArg (Value.int .i64) (by unfold Gs.attN; first | (rw [if_pos (by omega)] <;> omega) | (rw [if_neg (by omega), if_pos (by omega)] <;> omega) | (rw [if_neg (by omega), if_neg (by omega), if_pos (by omega)] <;> omega) | (rw [if_neg (by omega), if_neg (by omega), if_neg (by omega), if_pos (by omega)] <;> omega) | (rw [if_neg (by omega), if_neg (by omega), if_neg (by omega), if_neg (by omega)]))), hF⟩
                · refine pickt ?_
                  refine condf ?_
                  refine hJ1 _ _ ?_
                  exact ⟨(congrArg (Value.int .i64) (by unfold Gs.attN; first | (rw [if_pos (by omega)] <;> omega) | (rw [if_neg (by omega), if_pos (by omega)] <;> omega) | (rw [if_neg (by omega), if_neg (by omega), if_pos (by omega)] <;> omega) | (rw [if_neg (by omega), if_neg (by omega), if_neg (by omega), if_pos (by omega)] <;> omega) | (rw [if_neg (by omega), if_neg (by omega), if_neg (by omega), if_neg (by omega)]))), hF⟩
              · refine gdft ?_
                refine gdft ?_
                refine pickf ?_
                refine condf ?_
                refine hJ1 _ _ ?_
                exact ⟨(congrArg (Value.int .i64) (by unfold Gs.attN; first | (rw [if_pos (by omega)] <;> omega) | (rw [if_neg (by omega), if_pos (by omega)] <;> omega) | (rw [if_neg (by omega), if_neg (by omega), if_pos (by omega)] <;> omega) | (rw [if_neg (by omega), if_neg (by omega), if_neg (by omega), if_pos (by omega)] <;> omega) | (rw [if_neg (by omega), if_neg (by omega), if_neg (by omega), if_neg (by omega)]))), hF⟩
          · refine gdft ?_
            refine gdft ?_
            refine pickf ?_
            refine condf ?_
            refine opv_dec (geq _ _ _ _) (fun h23 => ?_) (fun h23 => ?_)
            · refine gdtt ?_
              refine gdtt ?_
              refine opv_dec (leq _ _ _ _) (fun h24 => ?_) (fun h24 => ?_)
              · refine pickt ?_
                refine condt ?_
                first | refine opv_run (sub_u8 _ (by omega)) ?_ | refine opv_run (subI _ _ _ _) ?_
                first | refine opv_run (conv_i64 (by kernel_rfl) (by kernel_rfl) (by omega)) ?_ | refine opv_run (convII (k := .i64) (by kernel_rfl) (by kernel_rfl)) ?_
                first | refine opv_run (add_i64 _ (by omega)) ?_ | refine opv_run (addI _ _ _ _) ?_
                refine hJ1 _ _ ?_
                exact ⟨(congrArg (Value.int .i64) (by unfold Gs.attN; first | (rw [if_pos (by omega)] <;> omega) | (rw [if_neg (by omega), if_pos (by omega)] <;> omega) | (rw [if_neg (by omega), if_neg (by omega), if_pos (by omega)] <;> omega) | (rw [if_neg (by omega), if_neg (by omega), if_neg (by omega), if_pos (by omega)] <;> omega) | (rw [if_neg (by omega), if_neg (by omega), if_neg (by omega), if_neg (by omega)]))), hF⟩
              · refine pickt ?_
                refine condf ?_
                refine hJ1 _ _ ?_
                exact ⟨(congrArg (Value.int .i64) (by unfold Gs.attN; first | (rw [if_pos (by omega)] <;> omega) | (rw [if_neg (by omega), if_pos (by omega)] <;> omega) | (rw [if_neg (by omega), if_neg (by omega), if_pos (by omega)] <;> omega) | (rw [if_neg (by omega), if_neg (by omega), if_neg (by omega), if_pos (by omega)] <;> omega) | (rw [if_neg (by omega), if_neg (by omega), if_neg (by omega), if_neg (by omega)]))), hF⟩
            · refine gdft ?_
              refine gdft ?_
              refine pickf ?_
              refine condf ?_
              refine hJ1 _ _ ?_
              exact ⟨(congrArg (Value.int .i64) (by unfold Gs.attN; first | (rw [if_pos (by omega)] <;> omega) | (rw [if_neg (by omega), if_pos (by omega)] <;> omega) | (rw [if_neg (by omega), if_neg (by omega), if_pos (by omega)] <;> omega) | (rw [if_neg (by omega), if_neg (by omega), if_neg (by omega), if_pos (by omega)] <;> omega) | (rw [if_neg (by omega), if_neg (by omega), if_neg (by omega), if_neg (by omega)]))), hF⟩
      · refine gdft ?_
        refine gdft ?_
        refine pickf ?_
        refine condf ?_
        refine opv_dec (geq _ _ _ _) (fun h25 => ?_) (fun h25 => ?_)
        · refine gdtt ?_
          refine gdtt ?_
          refine opv_dec (leq _ _ _ _) (fun h26 => ?_) (fun h26 => ?_)
          · refine pickt ?_
            refine condt ?_
            first | refine opv_run (sub_u8 _ (by omega)) ?_ | refine opv_run (subI _ _ _ _) ?_
            first | refine opv_run (conv_i64 (by kernel_rfl) (by kernel_rfl) (by omega)) ?_ | refine opv_run (convII (k := .i64) (by kernel_rfl) (by kernel_rfl)) ?_
            first | refine opv_run (add_i64 _ (by omega)) ?_ | refine opv_run (addI _ _ _ _) ?_
            refine hJ1 _ _ ?_
            exact ⟨(congrArg (Value.int .i64) (by unfold Gs.attN; first | (rw [if_pos (by omega)] <;> omega) | (rw [if_neg (by omega), if_pos (by omega)] <;> omega) | (rw [if_neg (by omega), if_neg (by omega), if_pos (by omega)] <;> omega) | (rw [if_neg (by omega), if_neg (by omega), if_neg (by omega), if_pos (by omega)] <;> omega) | (rw [if_neg (by omega), if_neg (by omega), if_neg (by omega), if_neg (by omega)]))), hF⟩
          · refine pickt ?_
            refine condf ?_
            refine opv_dec (geq _ _ _ _) (fun h27 => ?_) (fun h27 => ?_)
            · refine gdtt ?_
              refine gdtt ?_
              refine opv_dec (leq _ _ _ _) (fun h28 => ?_) (fun h28 => ?_)
              · refine pickt ?_
                refine condt ?_
                first | refine opv_run (sub_u8 _ (by omega)) ?_ | refine opv_run (subI _ _ _ _) ?_
                first | refine opv_run (conv_i64 (by kernel_rfl) (by kernel_rfl) (by omega)) ?_ | refine opv_run (convII (k := .i64) (by kernel_rfl) (by kernel_rfl)) ?_
                first | refine opv_run (add_i64 _ (by omega)) ?_ | refine opv_run (addI _ _ _ _) ?_
                refine hJ1 _ _ ?_
                exact ⟨(congrArg (Value.int .i64) (by unfold Gs.attN; first | (rw [if_pos (by omega)] <;> omega) | (rw [if_neg (by omega), if_pos (by omega)] <;> omega) | (rw [if_neg (by omega), if_neg (by omega), if_pos (by omega)] <;> omega) | (rw [if_neg (by omega), if_neg (by omega), if_neg (by omega), if_pos (by omega)] <;> omega) | (rw [if_neg (by omega), if_neg (by omega), if_neg (by omega), if_neg (by omega)]))), hF⟩
              · refine pickt ?_
                refine condf ?_
                refine hJ1 _ _ ?_
                exact ⟨(congrArg (Value.int .i64) (by unfold Gs.attN; first | (rw [if_pos (by omega)] <;> omega) | (rw [if_neg (by omega), if_pos (by omega)] <;> omega) | (rw [if_neg (by omega), if_neg (by omega), if_pos (by omega)] <;> omega) | (rw [if_neg (by omega), if_neg (by omega), if_neg (by omega), if_pos (by omega)] <;> omega) | (rw [if_neg (by omega), if_neg (by omega), if_neg (by omega), if_neg (by omega)]))), hF⟩
            · refine gdft ?_
              refine gdft ?_
              refine pickf ?_
              refine condf ?_
              refine hJ1 _ _ ?_
              exact ⟨(congrArg (Value.int .i64) (by unfold Gs.attN; first | (rw [if_pos (by omega)] <;> omega) | (rw [if_neg (by omega), if_pos (by omega)] <;> omega) | (rw [if_neg (by omega), if_neg (by omega), if_pos (by omega)] <;> omega) | (rw [if_neg (by omega), if_neg (by omega), if_neg (by omega), if_pos (by omega)] <;> omega) | (rw [if_neg (by omega), if_neg (by omega), if_neg (by omega), if_neg (by omega)]))), hF⟩
        · refine gdft ?_
          refine gdft ?_
          refine pickf ?_
          refine condf ?_
          refine opv_dec (geq _ _ _ _) (fun h29 => ?_) (fun h29 => ?_)
          · refine gdtt ?_
            refine gdtt ?_
            refine opv_dec (leq _ _ _ _) (fun h30 => ?_) (fun h30 => ?_)
            · refine pickt ?_
              refine condt ?_
              first | refine opv_run (sub_u8 _ (by omega)) ?_ | refine opv_run (subI _ _ _ _) ?_
              first | refine opv_run (conv_i64 (by kernel_rfl) (by kernel_rfl) (by omega)) ?_ | refine opv_run (convII (k := .i64) (by kernel_rfl) (by kernel_rfl)) ?_
              first | refine opv_run (add_i64 _ (by omega)) ?_ | refine opv_run (addI _ _ _ _) ?_
              refine hJ1 _ _ ?_
              exact ⟨(congrArg (Value.int .i64) (by unfold Gs.attN; first | (rw [if_pos (by omega)] <;> omega) | (rw [if_neg (by omega), if_pos (by omega)] <;> omega) | (rw [if_neg (by omega), if_neg (by omega), if_pos (by omega)] <;> omega) | (rw [if_neg (by omega), if_neg (by omega), if_neg (by omega), if_pos (by omega)] <;> omega) | (rw [if_neg (by omega), if_neg (by omega), if_neg (by omega), if_neg (by omega)]))), hF⟩
            · refine pickt ?_
              refine condf ?_
              refine hJ1 _ _ ?_
              exact ⟨(congrArg (Value.int .i64) (by unfold Gs.attN; first | (rw [if_pos (by omega)] <;> omega) | (rw [if_neg (by omega), if_pos (by omega)] <;> omega) | (rw [if_neg (by omega), if_neg (by omega), if_pos (by omega)] <;> omega) | (rw [if_neg (by omega), if_neg (by omega), if_neg (by omega), if_pos (by omega)] <;> omega) | (rw [if_neg (by omega), if_neg (by omega), if_neg (by omega), if_neg (by omega)]))), hF⟩
          · refine gdft ?_
            refine gdft ?_
            refine pickf ?_
            refine condf ?_
            refine hJ1 _ _ ?_
            exact ⟨(congrArg (Value.int .i64) (by unfold Gs.attN; first | (rw [if_pos (by omega)] <;> omega) | (rw [if_neg (by omega), if_pos (by omega)] <;> omega) | (rw [if_neg (by omega), if_neg (by omega), if_pos (by omega)] <;> omega) | (rw [if_neg (by omega), if_neg (by omega), if_neg (by omega), if_pos (by omega)] <;> omega) | (rw [if_neg (by omega), if_neg (by omega), if_neg (by omega), if_neg (by omega)]))), hF⟩
  · obtain ⟨g3, hF⟩ := hI
    try rw [g3]
    exact ⟨rfl, hF⟩

/-- greenscreen/keyboard.plain -/
theorem c_keyboard_plain {b : Int} {w : World} :
    Calls Tryz.prog 41 #[.int .u8 b] w fun e w' => e = .returned (.string (Gs.attP b)) ∧ Upd no w w' := by
  refine F41.calls ?_
  unfold F41
  have hF : Upd no w w := Fr.refl _ _ _
  refine opv_dec (eqI _ _ _ _ _) (fun h1 => ?_) (fun h1 => ?_)
  · refine condt ?_
    exact ⟨congrArg (fun r => Ending.returned (.string r)) (by unfold Gs.attP; first | rw [if_pos (by omega)] | rw [if_neg (by omega), if_pos (by omega)] | rw [if_neg (by omega), if_neg (by omega), if_pos (by omega)] | rw [if_neg (by omega), if_neg (by omega), if_neg (by omega), if_pos (by omega)] | rw [if_neg (by omega), if_neg (by omega), if_neg (by omega), if_neg (by omega), if_pos (by omega)] | rw [if_neg (by omega), if_neg (by omega), if_neg (by omega), if_neg (by omega), if_neg (by omega)]), hF⟩
  · refine condf ?_
    refine opv_dec (eqI _ _ _ _ _) (fun h3 => ?_) (fun h3 => ?_)
    · refine condt ?_
      exact ⟨congrArg (fun r => Ending.returned (.string r)) (by unfold Gs.attP; first | rw [if_pos (by omega)] | rw [if_neg (by omega), if_pos (by omega)] | rw [if_neg (by omega), if_neg (by omega), if_pos (by omega)] | rw [if_neg (by omega), if_neg (by omega), if_neg (by omega), if_pos (by omega)] | rw [if_neg (by omega), if_neg (by omega), if_neg (by omega), if_neg (by omega), if_pos (by omega)] | rw [if_neg (by omega), if_neg (by omega), if_neg (by omega), if_neg (by omega), if_neg (by omega)]), hF⟩
    · refine condf ?_
      refine opv_dec (eqI _ _ _ _ _) (fun h5 => ?_) (fun h5 => ?_)
      · refine condt ?_
        exact ⟨congrArg (fun r => Ending.returned (.string r)) (by unfold Gs.attP; first | rw [if_pos (by omega)] | rw [if_neg (by omega), if_pos (by omega)] | rw [if_neg (by omega), if_neg (by omega), if_pos (by omega)] | rw [if_neg (by omega), if_neg (by omega), if_neg (by omega), if_pos (by omega)] | rw [if_neg (by omega), if_neg (by omega), if_neg (by omega), if_neg (by omega), if_pos (by omega)] | rw [if_neg (by omega), if_neg (by omega), if_neg (by omega), if_neg (by omega), if_neg (by omega)]), hF⟩
      · refine condf ?_
        refine opv_dec (eqI _ _ _ _ _) (fun h7 => ?_) (fun h7 => ?_)
        · refine condt ?_
          exact ⟨congrArg (fun r => Ending.returned (.string r)) (by unfold Gs.attP; first | rw [if_pos (by omega)] | rw [if_neg (by omega), if_pos (by omega)] | rw [if_neg (by omega), if_neg (by omega), if_pos (by omega)] | rw [if_neg (by omega), if_neg (by omega), if_neg (by omega), if_pos (by omega)] | rw [if_neg (by omega), if_neg (by omega), if_neg (by omega), if_neg (by omega), if_pos (by omega)] | rw [if_neg (by omega), if_neg (by omega), if_neg (by omega), if_neg (by omega), if_neg (by omega)]), hF⟩
        · refine condf ?_
          refine opv_dec (eqI _ _ _ _ _) (fun h9 => ?_) (fun h9 => ?_)
          · refine condt ?_
            exact ⟨congrArg (fun r => Ending.returned (.string r)) (by unfold Gs.attP; first | rw [if_pos (by omega)] | rw [if_neg (by omega), if_pos (by omega)] | rw [if_neg (by omega), if_neg (by omega), if_pos (by omega)] | rw [if_neg (by omega), if_neg (by omega), if_neg (by omega), if_pos (by omega)] | rw [if_neg (by omega), if_neg (by omega), if_neg (by omega), if_neg (by omega), if_pos (by omega)] | rw [if_neg (by omega), if_neg (by omega), if_neg (by omega), if_neg (by omega), if_neg (by omega)]), hF⟩
          · refine condf ?_
            exact ⟨congrArg (fun r => Ending.returned (.string r)) (by unfold Gs.attP; first | rw [if_pos (by omega)] | rw [if_neg (by omega), if_pos (by omega)] | rw [if_neg (by omega), if_neg (by omega), if_pos (by omega)] | rw [if_neg (by omega), if_neg (by omega), if_neg (by omega), if_pos (by omega)] | rw [if_neg (by omega), if_neg (by omega), if_neg (by omega), if_neg (by omega), if_pos (by omega)] | rw [if_neg (by omega), if_neg (by omega), if_neg (by omega), if_neg (by omega), if_neg (by omega)]), hF⟩

/-- greenscreen/keyboard.attention -/
theorem c_keyboard_attention {b : Int} {w : World} (hb : 0 ≤ b ∧ b ≤ 255) :
    Calls Tryz.prog 40 #[.int .u8 b] w fun e w' => e = .returned (.string (Gs.attS b)) ∧ Upd no w w' := by
  refine F40.calls ?_
  unfold F40
  have hab := Gs.attN_bd b
  have hF : Upd no w w := Fr.refl _ _ _
  refine callF_val (c_keyboard_function hb) (fun w1 U1 => ?_)
  replace hF := hF.go0 U1
  refine opv_dec (gtr _ _ _ _) (fun h2 => ?_) (fun h2 => ?_)
  · refine condt ?_
    refine callF_val (c_Itoa_s (n := Gs.attN b) (by omega)) (fun w3 U3 => ?_)
    replace hF := hF.go0 U3
    refine opv_run (addS (by have h2 := Gs.itoaS_size2 (n := Gs.attN b) (by omega); have h3 : (⟨#[80, 70]⟩ : ByteArray).size = 2 := rfl; omega)) ?_
    exact ⟨congrArg (fun r => Ending.returned (.string r)) (by unfold Gs.attS; first | rw [if_pos (by omega)] | rw [if_neg (by omega)]), hF⟩
  · refine condf ?_
    refine callF_val (c_keyboard_plain) (fun w6 U6 => ?_)
    replace hF := hF.go0 U6
    exact ⟨congrArg (fun r => Ending.returned (.string r)) (by unfold Gs.attS; first | rw [if_pos (by omega)] | rw [if_neg (by omega)]), hF⟩

/-- greenscreen/keyboard.Name -/
theorem c_keyboard_Name {b : Int} {w : World} (hb : 0 ≤ b ∧ b ≤ 255) :
    Calls Tryz.prog 127 #[.agg #[.int .i64 17, .int .u8 b]] w fun e w' => e = .returned (.string (Gs.attS b)) ∧ Upd no w w' := by
  refine F127.calls ?_
  unfold F127
  have hF : Upd no w w := Fr.refl _ _ _
  refine box_intro (cs := #[.int .i64 17, .int .u8 b]) (by rfl) (fun b1 w1 e1 h_b1 _ U1 => ?_)
  have ge_b1 : w.heap.size ≤ b1 := by have := hF.size; omega
  replace hF := hF.go0 U1
  clear e1
  refine opv_run (fieldAt_eq (off := 0) (by kernel_rfl)) ?_
  refine opv_run (ldC (by kernel_rfl) h_b1 (by rfl)) ?_
  refine opv_T (eqI _ _ _ _ _) (rfl) ?_
  refine condt ?_
  refine opv_run (fieldAt_eq (off := 1) (by kernel_rfl)) ?_
  refine opv_run (ldC (by kernel_rfl) h_b1 (by rfl)) ?_
  refine callF_val (c_keyboard_attention hb) (fun w2 U2 => ?_)
  replace h_b1 := U2.get0 h_b1
  replace hF := hF.go0 U2
  exact ⟨rfl, hF⟩

/-- greenscreen/grammar.name -/
theorem c_grammar_name {b : Int} {w : World} (hb : 0 ≤ b ∧ b ≤ 255) :
    Calls Tryz.prog 75 #[.int .u8 b] w fun e w' => e = .returned (.string (Gs.nameS b)) ∧ Upd no w w' := by
  refine F75.calls ?_
  unfold F75
  have hF : Upd no w w := Fr.refl _ _ _
  refine opv_run (build_eq (l := [(0, 1), (1, 1)]) (z := #[.int .i64 0, .int .u8 0]) (by kernel_rfl) (by first | (simp [fillL, splice, repL, Value.cells, Gs.cv]; done) | (simp [fillL, splice, repL, Value.cells, Gs.cv]; rfl))) ?_
  refine callF_val (c_keyboard_Name hb) (fun w1 U1 => ?_)
  replace hF := hF.go0 U1
  refine opv_dec (neS _ _ _ _) (fun h2 => ?_) (fun h2 => ?_)
  · refine condt ?_
    exact ⟨congrArg (fun r => Ending.returned (.string r)) (by unfold Gs.nameS; first | rw [if_neg (by assumption)] | (rw [if_pos (Classical.not_not.1 (by assumption))]; rfl)), hF⟩
  · refine condf ?_
    refine drawn_S (S := no) (fun w4 U4 => ?_)
    replace hF := hF.go0 U4
    refine qop_run (fun w' hw' => (shr4u _ _)) ?_
    refine qop_run (fun w' hw' => (shr4u _ _)) ?_
    first | refine qop_run (fun w' hw' => (add_u8 _ (by omega))) ?_ | refine qop_run (fun w' hw' => (addI _ _ _ _)) ?_
    refine qop_run (fun w' hw' => (sliceSB (s := Gs.hexB) (by kernel_rfl) (by omega) (by omega) (by show _ ≤ ((16 : Nat) : Int); omega))) ?_
    refine qop_run (fun w' hw' => (and8_15 _ (by omega))) ?_
    refine qop_run (fun w' hw' => (and8_15 _ (by omega))) ?_
    first | refine qop_run (fun w' hw' => (add_u8 _ (by omega))) ?_ | refine qop_run (fun w' hw' => (addI _ _ _ _)) ?_
    refine qop_run (fun w' hw' => (sliceSB (s := Gs.hexB) (by kernel_rfl) (by omega) (by omega) (by show _ ≤ ((16 : Nat) : Int); omega))) ?_
    refine qop_run (fun w' hw' => (addS (by have := Gs.hexS_size hb.1; omega))) ?_
    refine ext_intro (fun w8 U8 => ?_)
    replace hF := hF.go0 U8
    exact ⟨congrArg (fun r => Ending.returned (.string r)) (by unfold Gs.nameS; first | rw [if_neg (by assumption)] | (rw [if_pos (Classical.not_not.1 (by assumption))]; rfl)), hF⟩

end Go.Proofs.YtjdoakbadehicaaGreatDoor
