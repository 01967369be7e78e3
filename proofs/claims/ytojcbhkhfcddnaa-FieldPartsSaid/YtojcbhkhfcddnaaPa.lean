/-
  Contracts of functions of the program, walked over their shallow forms. No condition but the ones that each states.
-/
import Derived.Test.YtojcbhkhfcddnaaF
import Derived.Test.YtojcbhkhfcddnaaRow
import Derived.Test.YtojcbhkhfcddnaaPlaneModel
namespace Go.Proofs.Ytojcbhkhfcddnaa
open Go Go.Sh
set_option linter.unusedVariables false
set_option maxRecDepth 100000


theorem eqIn_Cell (w : World) {a b : Gs.Cell} : (Op.equalIn 10000 45 (.agg (Gs.cv a).toArray) (.agg (Gs.cv b).toArray)).run Try.prog w = .ok (decide (a = b)) w := by
  have hf : plainF Try.prog ((Try.prog).fieldsOf 45).toList = some [(5, 0), (4, 1), (4, 2), (5, 3), (5, 4)] := by kernel_rfl
  rw [show (10000 : Nat) = 9999 + 1 from rfl, run_equalIn_agg w 9999 45 _ _ (by kernel_rfl) (by kernel_rfl)]
  generalize ((Try.prog).fieldsOf 45).toList = fs0 at hf
  obtain ⟨f0, fs1, rfl⟩ := plain_cons hf
  obtain ⟨hf, e0⟩ := eqF_cons (w := w) (d := 9999) (xs := (Gs.cv a).toArray) (ys := (Gs.cv b).toArray) hf rfl rfl (fun w => run_equalIn_int w 9998 5 .u8 .u8 a.b b.b (by kernel_rfl))
  obtain ⟨f1, fs2, rfl⟩ := plain_cons hf
  obtain ⟨hf, e1⟩ := eqF_cons (w := w) (d := 9999) (xs := (Gs.cv a).toArray) (ys := (Gs.cv b).toArray) hf rfl rfl (fun w => run_equalIn_bool' w 9998 4 a.ge b.ge (by kernel_rfl))
  obtain ⟨f2, fs3, rfl⟩ := plain_cons hf
  obtain ⟨hf, e2⟩ := eqF_cons (w := w) (d := 9999) (xs := (Gs.cv a).toArray) (ys := (Gs.cv b).toArray) hf rfl rfl (fun w => run_equalIn_bool' w 9998 4 a.st b.st (by kernel_rfl))
  obtain ⟨f3, fs4, rfl⟩ := plain_cons hf
  obtain ⟨hf, e3⟩ := eqF_cons (w := w) (d := 9999) (xs := (Gs.cv a).toArray) (ys := (Gs.cv b).toArray) hf rfl rfl (fun w => run_equalIn_int w 9998 5 .u8 .u8 a.l b.l (by kernel_rfl))
  obtain ⟨f4, fs5, rfl⟩ := plain_cons hf
  obtain ⟨hf, e4⟩ := eqF_cons (w := w) (d := 9999) (xs := (Gs.cv a).toArray) (ys := (Gs.cv b).toArray) hf rfl rfl (fun w => run_equalIn_int w 9998 5 .u8 .u8 a.c b.c (by kernel_rfl))
  have hn := plain_nil hf; subst hn
  rw [e0]; clear e0
  rw [e1]; clear e1
  rw [e2]; clear e2
  rw [e3]; clear e3
  rw [e4]; clear e4
  rw [eqF_nil]
  obtain ⟨a1, a2, a3, a4, a5⟩ := a; obtain ⟨b1, b2, b3, b4, b5⟩ := b
  simp only [Gs.Cell.mk.injEq, beq_iff_eq]
  by_cases h1 : a1 = b1 <;> by_cases h2 : a2 = b2 <;> by_cases h3 : a3 = b3 <;> by_cases h4 : a4 = b4 <;> by_cases h5 : a5 = b5 <;> simp [h1, h2, h3, h4, h5]
theorem eq_Cell (q : Bool) {w : World} {a b : Gs.Cell} : (binE q .eql 45 (.agg (Gs.cv a).toArray) (.agg (Gs.cv b).toArray)).run Try.prog w = .ok (.bool (decide (a = b))) w := eqA (by kernel_rfl) fun w => eqIn_Cell w
theorem ne_Cell (q : Bool) {w : World} {a b : Gs.Cell} : (binE q .neq 45 (.agg (Gs.cv a).toArray) (.agg (Gs.cv b).toArray)).run Try.prog w = .ok (.bool (decide (¬ (a = b)))) w := by
  rw [neA (by kernel_rfl) fun w => eqIn_Cell w]; simp

theorem eqIn_Size (w : World) {r c r' c' : Int} : (Op.equalIn 10000 23 (.agg #[.int .i64 r, .int .i64 c]) (.agg #[.int .i64 r', .int .i64 c'])).run Try.prog w = .ok (decide (r = r' ∧ c = c')) w := by
  have hf : plainF Try.prog ((Try.prog).fieldsOf 23).toList = some [(3, 0), (3, 1)] := by kernel_rfl
  rw [show (10000 : Nat) = 9999 + 1 from rfl, run_equalIn_agg w 9999 23 _ _ (by kernel_rfl) (by kernel_rfl)]
  generalize ((Try.prog).fieldsOf 23).toList = fs0 at hf
  obtain ⟨f0, fs1, rfl⟩ := plain_cons hf
  obtain ⟨hf, e0⟩ := eqF_cons (w := w) (d := 9999) (xs := #[.int .i64 r, .int .i64 c]) (ys := #[.int .i64 r', .int .i64 c']) hf rfl rfl (fun w => run_equalIn_int w 9998 3 .i64 .i64 r r' (by kernel_rfl))
  obtain ⟨f1, fs2, rfl⟩ := plain_cons hf
  obtain ⟨hf, e1⟩ := eqF_cons (w := w) (d := 9999) (xs := #[.int .i64 r, .int .i64 c]) (ys := #[.int .i64 r', .int .i64 c']) hf rfl rfl (fun w => run_equalIn_int w 9998 3 .i64 .i64 c c' (by kernel_rfl))
  have hn := plain_nil hf; subst hn
  rw [e0]; clear e0
  rw [e1]; clear e1
  rw [eqF_nil]
  simp only [beq_iff_eq]
  by_cases h1 : r = r' <;> by_cases h2 : c = c' <;> simp [h1, h2]
theorem eq_Size (q : Bool) {w : World} {r c r' c' : Int} : (binE q .eql 23 (.agg #[.int .i64 r, .int .i64 c]) (.agg #[.int .i64 r', .int .i64 c'])).run Try.prog w = .ok (.bool (decide (r = r' ∧ c = c'))) w := eqA (by kernel_rfl) fun w => eqIn_Size w
theorem ne_Size (q : Bool) {w : World} {r c r' c' : Int} : (binE q .neq 23 (.agg #[.int .i64 r, .int .i64 c]) (.agg #[.int .i64 r', .int .i64 c'])).run Try.prog w = .ok (.bool (decide (¬ (r = r' ∧ c = c')))) w := by
  rw [neA (by kernel_rfl) fun w => eqIn_Size w]; simp

/-- greenscreen/addr.Cells -/
theorem c_addr_Cells {r c : Int} {w : World} :
    Calls Try.prog 63 #[.agg #[.int .i64 r, .int .i64 c]] w fun e w' => e = .returned (.int .i64 (Gs.cellsN r c)) ∧ Upd no w w' := by
  refine F63.calls ?_
  unfold F63
  have hF : Upd no w w := Fr.refl _ _ _
  refine box_intro (by rfl) (fun b1 w1 e1 h_b1 _ U1 => ?_)
  have ge_b1 : w.heap.size ≤ b1 := by have := hF.size; omega
  replace hF := hF.go0 U1
  clear e1
  refine opv_run (fieldAt_eq (off := 0) (by kernel_rfl)) ?_
  refine opv_run (ldC (by kernel_rfl) h_b1 (by rfl)) ?_
  refine opv_run (fieldAt_eq (off := 1) (by kernel_rfl)) ?_
  refine opv_run (ldC (by kernel_rfl) h_b1 (by rfl)) ?_
  first | refine opv_run (mul_i64 _ (by omega)) ?_ | refine opv_run (mulI _ _ _ _) ?_
  refine opv_run (fieldAt_eq (off := 0) (by kernel_rfl)) ?_
  refine opv_run (ldC (by kernel_rfl) h_b1 (by rfl)) ?_
  refine opv_dec (lss _ _ _ _) (fun h2 => ?_) (fun h2 => ?_)
  · refine gdtf ?_
    refine gdtf ?_
    refine gdtf ?_
    refine pickt ?_
    refine gdtf ?_
    refine gdtf ?_
    refine gdtf ?_
    refine pickt ?_
    refine gdtf ?_
    refine gdtf ?_
    refine gdtf ?_
    refine pickt ?_
    refine gdtf ?_
    refine gdtf ?_
    refine pickt ?_
    refine condt ?_
    first | exact ⟨retI (Gs.cells_0 (by omega)), hF⟩ | exact ⟨retI (Gs.cells_b (by assumption) (by assumption) (by assumption) (by assumption) (by assumption)), hF⟩ | exact ⟨retI (Gs.cells_n (by assumption) (by assumption) (by assumption) (by assumption) (by assumption)), hF⟩
  · refine gdff ?_
    refine opv_run (fieldAt_eq (off := 0) (by kernel_rfl)) ?_
    refine gdff ?_
    refine opv_run (ldC (by kernel_rfl) h_b1 (by rfl)) ?_
    refine gdff ?_
    refine opv_dec (gtr _ _ _ _) (fun h4 => ?_) (fun h4 => ?_)
    · refine pickf ?_
      refine gdtf ?_
      refine gdtf ?_
      refine gdtf ?_
      refine pickt ?_
      refine gdtf ?_
      refine gdtf ?_
      refine gdtf ?_
      refine pickt ?_
      refine gdtf ?_
      refine gdtf ?_
      refine pickt ?_
      refine condt ?_
      first | exact ⟨retI (Gs.cells_0 (by omega)), hF⟩ | exact ⟨retI (Gs.cells_b (by assumption) (by assumption) (by assumption) (by assumption) (by assumption)), hF⟩ | exact ⟨retI (Gs.cells_n (by assumption) (by assumption) (by assumption) (by assumption) (by assumption)), hF⟩
    · refine pickf ?_
      refine gdff ?_
      refine opv_run (fieldAt_eq (off := 1) (by kernel_rfl)) ?_
      refine gdff ?_
      refine opv_run (ldC (by kernel_rfl) h_b1 (by rfl)) ?_
      refine gdff ?_
      refine opv_dec (lss _ _ _ _) (fun h6 => ?_) (fun h6 => ?_)
      · refine pickf ?_
        refine gdtf ?_
        refine gdtf ?_
        refine gdtf ?_
        refine pickt ?_
        refine gdtf ?_
        refine gdtf ?_
        refine pickt ?_
        refine condt ?_
        first | exact ⟨retI (Gs.cells_0 (by omega)), hF⟩ | exact ⟨retI (Gs.cells_b (by assumption) (by assumption) (by assumption) (by assumption) (by assumption)), hF⟩ | exact ⟨retI (Gs.cells_n (by assumption) (by assumption) (by assumption) (by assumption) (by assumption)), hF⟩
      · refine pickf ?_
        refine gdff ?_
        refine opv_run (fieldAt_eq (off := 1) (by kernel_rfl)) ?_
        refine gdff ?_
        refine opv_run (ldC (by kernel_rfl) h_b1 (by rfl)) ?_
        refine gdff ?_
        refine opv_dec (gtr _ _ _ _) (fun h8 => ?_) (fun h8 => ?_)
        · refine pickf ?_
          refine gdtf ?_
          refine gdtf ?_
          refine pickt ?_
          refine condt ?_
          first | exact ⟨retI (Gs.cells_0 (by omega)), hF⟩ | exact ⟨retI (Gs.cells_b (by assumption) (by assumption) (by assumption) (by assumption) (by assumption)), hF⟩ | exact ⟨retI (Gs.cells_n (by assumption) (by assumption) (by assumption) (by assumption) (by assumption)), hF⟩
        · refine pickf ?_
          refine gdff ?_
          refine gdff ?_
          refine opv_dec (gtr _ _ _ _) (fun h10 => ?_) (fun h10 => ?_)
          · refine pickf ?_
            refine condt ?_
            first | exact ⟨retI (Gs.cells_0 (by omega)), hF⟩ | exact ⟨retI (Gs.cells_b (by assumption) (by assumption) (by assumption) (by assumption) (by assumption)), hF⟩ | exact ⟨retI (Gs.cells_n (by assumption) (by assumption) (by assumption) (by assumption) (by assumption)), hF⟩
          · refine pickf ?_
            refine condf ?_
            first | exact ⟨retI (Gs.cells_0 (by omega)), hF⟩ | exact ⟨retI (Gs.cells_b (by assumption) (by assumption) (by assumption) (by assumption) (by assumption)), hF⟩ | exact ⟨retI (Gs.cells_n (by assumption) (by assumption) (by assumption) (by assumption) (by assumption)), hF⟩

/-- greenscreen/greenscreenref02.Cells -/
theorem c_greenscreenref02_Cells {r c : Int} {w : World} :
    Calls Try.prog 64 #[.agg #[.int .i64 r, .int .i64 c]] w fun e w' => e = .returned (.int .i64 (Gs.cellsN r c)) ∧ Upd no w w' := by
  refine F64.calls ?_
  unfold F64
  have hF : Upd no w w := Fr.refl _ _ _
  refine box_intro (by rfl) (fun b1 w1 e1 h_b1 _ U1 => ?_)
  have ge_b1 : w.heap.size ≤ b1 := by have := hF.size; omega
  replace hF := hF.go0 U1
  clear e1
  refine opv_run (fieldAt_eq (off := 0) (by kernel_rfl)) ?_
  refine opv_run (ldC (by kernel_rfl) h_b1 (by rfl)) ?_
  refine opv_dec (lss _ _ _ _) (fun h2 => ?_) (fun h2 => ?_)
  · refine gdtf ?_
    refine gdtf ?_
    refine gdtf ?_
    refine pickt ?_
    refine gdtf ?_
    refine gdtf ?_
    refine gdtf ?_
    refine pickt ?_
    refine gdtf ?_
    refine gdtf ?_
    refine gdtf ?_
    refine pickt ?_
    refine gdtf ?_
    refine gdtf ?_
    refine gdtf ?_
    refine gdtf ?_
    refine gdtf ?_
    refine gdtf ?_
    refine pickt ?_
    refine condt ?_
    first | exact ⟨retI (Gs.cells_0 (by omega)), hF⟩ | exact ⟨retI (Gs.cells_b (by assumption) (by assumption) (by assumption) (by assumption) (by assumption)), hF⟩ | exact ⟨retI (Gs.cells_n (by assumption) (by assumption) (by assumption) (by assumption) (by assumption)), hF⟩
  · refine gdff ?_
    refine opv_run (fieldAt_eq (off := 0) (by kernel_rfl)) ?_
    refine gdff ?_
    refine opv_run (ldC (by kernel_rfl) h_b1 (by rfl)) ?_
    refine gdff ?_
    refine opv_dec (gtr _ _ _ _) (fun h4 => ?_) (fun h4 => ?_)
    · refine pickf ?_
      refine gdtf ?_
      refine gdtf ?_
      refine gdtf ?_
      refine pickt ?_
      refine gdtf ?_
      refine gdtf ?_
      refine gdtf ?_
      refine pickt ?_
      refine gdtf ?_
      refine gdtf ?_
      refine gdtf ?_
      refine gdtf ?_
      refine gdtf ?_
      refine gdtf ?_
      refine pickt ?_
      refine condt ?_
      first | exact ⟨retI (Gs.cells_0 (by omega)), hF⟩ | exact ⟨retI (Gs.cells_b (by assumption) (by assumption) (by assumption) (by assumption) (by assumption)), hF⟩ | exact ⟨retI (Gs.cells_n (by assumption) (by assumption) (by assumption) (by assumption) (by assumption)), hF⟩
    · refine pickf ?_
      refine gdff ?_
      refine opv_run (fieldAt_eq (off := 1) (by kernel_rfl)) ?_
      refine gdff ?_
      refine opv_run (ldC (by kernel_rfl) h_b1 (by rfl)) ?_
      refine gdff ?_
      refine opv_dec (lss _ _ _ _) (fun h6 => ?_) (fun h6 => ?_)
      · refine pickf ?_
        refine gdtf ?_
        refine gdtf ?_
        refine gdtf ?_
        refine pickt ?_
        refine gdtf ?_
        refine gdtf ?_
        refine gdtf ?_
        refine gdtf ?_
        refine gdtf ?_
        refine gdtf ?_
        refine pickt ?_
        refine condt ?_
        first | exact ⟨retI (Gs.cells_0 (by omega)), hF⟩ | exact ⟨retI (Gs.cells_b (by assumption) (by assumption) (by assumption) (by assumption) (by assumption)), hF⟩ | exact ⟨retI (Gs.cells_n (by assumption) (by assumption) (by assumption) (by assumption) (by assumption)), hF⟩
      · refine pickf ?_
        refine gdff ?_
        refine opv_run (fieldAt_eq (off := 1) (by kernel_rfl)) ?_
        refine gdff ?_
        refine opv_run (ldC (by kernel_rfl) h_b1 (by rfl)) ?_
        refine gdff ?_
        refine opv_dec (gtr _ _ _ _) (fun h8 => ?_) (fun h8 => ?_)
        · refine pickf ?_
          refine gdtf ?_
          refine gdtf ?_
          refine gdtf ?_
          refine gdtf ?_
          refine gdtf ?_
          refine gdtf ?_
          refine pickt ?_
          refine condt ?_
          first | exact ⟨retI (Gs.cells_0 (by omega)), hF⟩ | exact ⟨retI (Gs.cells_b (by assumption) (by assumption) (by assumption) (by assumption) (by assumption)), hF⟩ | exact ⟨retI (Gs.cells_n (by assumption) (by assumption) (by assumption) (by assumption) (by assumption)), hF⟩
        · refine pickf ?_
          refine gdff ?_
          refine opv_run (fieldAt_eq (off := 0) (by kernel_rfl)) ?_
          refine gdff ?_
          refine opv_run (ldC (by kernel_rfl) h_b1 (by rfl)) ?_
          refine gdff ?_
          refine opv_run (fieldAt_eq (off := 1) (by kernel_rfl)) ?_
          refine gdff ?_
          refine opv_run (ldC (by kernel_rfl) h_b1 (by rfl)) ?_
          refine gdff ?_
          first | refine opv_run (mul_i64 _ (by omega)) ?_ | refine opv_run (mulI _ _ _ _) ?_
          refine gdff ?_
          refine opv_dec (gtr _ _ _ _) (fun h10 => ?_) (fun h10 => ?_)
          · refine pickf ?_
            refine condt ?_
            first | exact ⟨retI (Gs.cells_0 (by omega)), hF⟩ | exact ⟨retI (Gs.cells_b (by assumption) (by assumption) (by assumption) (by assumption) (by assumption)), hF⟩ | exact ⟨retI (Gs.cells_n (by assumption) (by assumption) (by assumption) (by assumption) (by assumption)), hF⟩
          · refine pickf ?_
            refine condf ?_
            refine opv_run (fieldAt_eq (off := 0) (by kernel_rfl)) ?_
            refine opv_run (ldC (by kernel_rfl) h_b1 (by rfl)) ?_
            refine opv_run (fieldAt_eq (off := 1) (by kernel_rfl)) ?_
            refine opv_run (ldC (by kernel_rfl) h_b1 (by rfl)) ?_
            first | refine opv_run (mul_i64 _ (by omega)) ?_ | refine opv_run (mulI _ _ _ _) ?_
            first | exact ⟨retI (Gs.cells_0 (by omega)), hF⟩ | exact ⟨retI (Gs.cells_b (by assumption) (by assumption) (by assumption) (by assumption) (by assumption)), hF⟩ | exact ⟨retI (Gs.cells_n (by assumption) (by assumption) (by assumption) (by assumption) (by assumption)), hF⟩

/-- (*greenscreen/plane.Plane).has -/
theorem c_Plane_has {r c cur : Int} {A : Option Addr} {n cp bp B0 : Nat} {cs : List Gs.Cell} {w : World} (h_bp : w.heap[bp]? = some (.cells #[.int .i64 r, .int .i64 c, .slice A n cp, .int .i64 cur] 102 (0, 0))) (own_p : Own B0 w 45 5 (.slice A n cp) (rows Gs.cv cs)) (hn : n = cs.length) {i : Int} :
    Calls Try.prog 56 #[.pointer (some ⟨bp, 0, none⟩), .int .i64 i] w fun e w' => e = .returned (.bool (decide (0 ≤ i ∧ i < cs.length))) ∧ Upd no w w' := by
  refine F56.calls ?_
  unfold F56
  have lt_h_bp := lt_get h_bp
  have lt_own_p := Own.lt own_p
  have hF : Upd no w w := Fr.refl _ _ _
  refine opv_dec (geq _ _ _ _) (fun h1 => ?_) (fun h1 => ?_)
  · refine gdtt ?_
    refine gdtt ?_
    refine gdtt ?_
    refine nilckp ?_
    refine gdtt ?_
    refine opv_run (fieldAt_eq (off := 2) (by kernel_rfl)) ?_
    refine gdtt ?_
    refine opv_run (ldC (by kernel_rfl) h_bp (by rfl)) ?_
    refine gdtt ?_
    refine opv_run (len_sl (by kernel_rfl) _ _ _) ?_
    refine gdtt ?_
    refine opv_run (lss _ _ _ _) ?_
    refine pickt ?_
    first | exact ⟨retB (by omega), hF⟩ | exact ⟨retT (by omega), hF⟩ | exact ⟨retF (by omega), hF⟩
  · refine gdft ?_
    refine gdft ?_
    refine gdft ?_
    refine gdft ?_
    refine gdft ?_
    refine gdft ?_
    refine gdft ?_
    refine pickf ?_
    first | exact ⟨retB (by omega), hF⟩ | exact ⟨retT (by omega), hF⟩ | exact ⟨retF (by omega), hF⟩

/-- (*greenscreen/plane.Plane).Len -/
theorem c_Plane_Len {r c cur : Int} {A : Option Addr} {n cp bp B0 : Nat} {cs : List Gs.Cell} {w : World} (h_bp : w.heap[bp]? = some (.cells #[.int .i64 r, .int .i64 c, .slice A n cp, .int .i64 cur] 102 (0, 0))) (own_p : Own B0 w 45 5 (.slice A n cp) (rows Gs.cv cs)) (hn : n = cs.length)  :
    Calls Try.prog 29 #[.pointer (some ⟨bp, 0, none⟩)] w fun e w' => e = .returned (.int .i64 n) ∧ Upd no w w' := by
  refine F29.calls ?_
  unfold F29
  have lt_h_bp := lt_get h_bp
  have lt_own_p := Own.lt own_p
  have hF : Upd no w w := Fr.refl _ _ _
  refine nilckp ?_
  refine opv_run (fieldAt_eq (off := 2) (by kernel_rfl)) ?_
  refine opv_run (ldC (by kernel_rfl) h_bp (by rfl)) ?_
  refine opv_run (len_sl (by kernel_rfl) _ _ _) ?_
  exact ⟨rfl, hF⟩

/-- (*greenscreen/plane.Plane).Cursor -/
theorem c_Plane_Cursor {r c cur : Int} {A : Option Addr} {n cp bp B0 : Nat} {cs : List Gs.Cell} {w : World} (h_bp : w.heap[bp]? = some (.cells #[.int .i64 r, .int .i64 c, .slice A n cp, .int .i64 cur] 102 (0, 0))) (own_p : Own B0 w 45 5 (.slice A n cp) (rows Gs.cv cs)) (hn : n = cs.length)  :
    Calls Try.prog 61 #[.pointer (some ⟨bp, 0, none⟩)] w fun e w' => e = .returned (.int .i64 cur) ∧ Upd no w w' := by
  refine F61.calls ?_
  unfold F61
  have lt_h_bp := lt_get h_bp
  have lt_own_p := Own.lt own_p
  have hF : Upd no w w := Fr.refl _ _ _
  refine nilckp ?_
  refine opv_run (fieldAt_eq (off := 3) (by kernel_rfl)) ?_
  refine opv_run (ldC (by kernel_rfl) h_bp (by rfl)) ?_
  exact ⟨rfl, hF⟩

/-- (*greenscreen/plane.Plane).Size -/
theorem c_Plane_Size {r c cur : Int} {A : Option Addr} {n cp bp B0 : Nat} {cs : List Gs.Cell} {w : World} (h_bp : w.heap[bp]? = some (.cells #[.int .i64 r, .int .i64 c, .slice A n cp, .int .i64 cur] 102 (0, 0))) (own_p : Own B0 w 45 5 (.slice A n cp) (rows Gs.cv cs)) (hn : n = cs.length)  :
    Calls Try.prog 44 #[.pointer (some ⟨bp, 0, none⟩)] w fun e w' => e = .returned (.agg #[.int .i64 r, .int .i64 c]) ∧ Upd no w w' := by
  refine F44.calls ?_
  unfold F44
  have lt_h_bp := lt_get h_bp
  have lt_own_p := Own.lt own_p
  have hF : Upd no w w := Fr.refl _ _ _
  refine alloc_intro (cs := #[.int .i64 0, .int .i64 0]) (by kernel_rfl) (fun b1 w1 e1 h_b1 _ U1 => ?_)
  have ne_bp_b1 : bp ≠ b1 := by have := lt_get h_bp; omega
  have na_own_p_b1 := own_p.apart e1
  have ge_b1 : w.heap.size ≤ b1 := by have := hF.size; omega
  replace own_p := own_p.upd0 U1
  replace h_bp := U1.get0 h_bp
  replace hF := hF.go0 U1
  clear e1
  refine nilckp ?_
  refine opv_run (fieldAt_eq (off := 0) (by kernel_rfl)) ?_
  refine opv_run (ldA (n := 2) (by kernel_rfl) h_bp (by first | exact Nat.le_of_ble_eq_true rfl | (simp; done) | omega) (by rfl)) ?_
  refine store_intro (n := 2) (by kernel_rfl) (by rfl) (by first | rfl | (simp [Value.cells, Value.oneCell', Gs.cv]; done)) h_b1 (by first | exact Nat.le_of_ble_eq_true rfl | (simp; done) | omega) (by first | (simp; rfl) | rfl) (fun w2 N2 _ U2 => ?_)
  replace own_p := own_p.upd1 U2 na_own_p_b1
  replace h_bp := U2.get1 h_bp ne_bp_b1
  replace h_b1 := N2
  replace hF := hF.go1 U2 ge_b1
  refine ldv_run (ldA (n := 2) (by kernel_rfl) h_b1 (by first | exact Nat.le_of_ble_eq_true rfl | simp | omega) (by rfl)) ?_
  exact ⟨rfl, hF⟩

/-- (*greenscreen/plane.Plane).At -/
theorem c_Plane_At {r c cur : Int} {A : Option Addr} {n cp bp B0 : Nat} {cs : List Gs.Cell} {w : World} (h_bp : w.heap[bp]? = some (.cells #[.int .i64 r, .int .i64 c, .slice A n cp, .int .i64 cur] 102 (0, 0))) (own_p : Own B0 w 45 5 (.slice A n cp) (rows Gs.cv cs)) (hn : n = cs.length) {i : Int} :
    Calls Try.prog 30 #[.pointer (some ⟨bp, 0, none⟩), .int .i64 i] w fun e w' => e = .returned (.agg (Gs.cv (Gs.getC cs i)).toArray) ∧ Upd no w w' := by
  refine F30.calls ?_
  unfold F30
  have lt_h_bp := lt_get h_bp
  have lt_own_p := Own.lt own_p
  have hF : Upd no w w := Fr.refl _ _ _
  refine alloc_intro (cs := (Gs.cv Gs.zc).toArray) (by kernel_rfl) (fun b1 w1 e1 h_b1 _ U1 => ?_)
  have ne_bp_b1 : bp ≠ b1 := by have := lt_get h_bp; omega
  have na_own_p_b1 := own_p.apart e1
  have ge_b1 : w.heap.size ≤ b1 := by have := hF.size; omega
  replace own_p := own_p.upd0 U1
  replace h_bp := U1.get0 h_bp
  replace hF := hF.go0 U1
  clear e1
  refine callF_bool (c_Plane_has h_bp own_p hn) (fun w2 U2 h2 => ?_) (fun w2 U2 h2 => ?_)
  · replace own_p := own_p.upd0 U2
    replace h_bp := U2.get0 h_bp
    replace h_b1 := U2.get0 h_b1
    replace hF := hF.go0 U2
    try simp only [decide_eq_true_eq, decide_eq_false_iff_not] at h2
    refine opv_run (notT) ?_
    refine condf ?_
    refine nilckp ?_
    refine opv_run (fieldAt_eq (off := 2) (by kernel_rfl)) ?_
    refine opv_run (ldC (by kernel_rfl) h_bp (by rfl)) ?_
    refine idx_rows Gs.encC (by kernel_rfl) (by kernel_rfl) own_p.rdS (by first | rfl | assumption | omega) (by omega) (by omega) (fun x3 hx3 => ?_)
    try simp only [Int.toNat_natCast] at hx3
    refine store_intro (n := 5) (cs' := (Gs.cv x3).toArray) (by kernel_rfl) (by rfl) (by first | rfl | (simp [Value.cells, Value.oneCell', Gs.cv]; done)) h_b1 (by first | exact Nat.le_of_ble_eq_true rfl | (simp; done) | omega) (by rfl) (fun w4 N4 _ U4 => ?_)
    replace own_p := own_p.upd1 U4 na_own_p_b1
    replace h_bp := U4.get1 h_bp ne_bp_b1
    replace h_b1 := N4
    replace hF := hF.go1 U4 ge_b1
    refine ldv_run (ldA (n := 5) (by kernel_rfl) h_b1 (by first | exact Nat.le_of_ble_eq_true rfl | simp | omega) (by rfl)) ?_
    first | (rw [Gs.getC_in (by omega) hx3]; exact ⟨rfl, hF⟩) | (rw [Gs.getC_out (by assumption)]; exact ⟨rfl, hF⟩)
  · replace own_p := own_p.upd0 U2
    replace h_bp := U2.get0 h_bp
    replace h_b1 := U2.get0 h_b1
    replace hF := hF.go0 U2
    try simp only [decide_eq_true_eq, decide_eq_false_iff_not] at h2
    refine opv_run (notF) ?_
    refine condt ?_
    refine opv_run (build_eq (l := [(0, 1), (1, 1), (2, 1), (3, 1), (4, 1)]) (z := #[.int .u8 0, .bool false, .bool false, .int .u8 0, .int .u8 0]) (cs := (Gs.cv Gs.zc)) (by kernel_rfl) (by rfl)) ?_
    refine store_intro (n := 5) (cs' := (Gs.cv Gs.zc).toArray) (by kernel_rfl) (by rfl) (by first | rfl | (simp [Value.cells, Value.oneCell', Gs.cv]; done)) h_b1 (by first | exact Nat.le_of_ble_eq_true rfl | (simp; done) | omega) (by rfl) (fun w6 N6 _ U6 => ?_)
    replace own_p := own_p.upd1 U6 na_own_p_b1
    replace h_bp := U6.get1 h_bp ne_bp_b1
    replace h_b1 := N6
    replace hF := hF.go1 U6 ge_b1
    refine ldv_run (ldA (n := 5) (by kernel_rfl) h_b1 (by first | exact Nat.le_of_ble_eq_true rfl | simp | omega) (by rfl)) ?_
    first | (rw [Gs.getC_in (by omega) hx3]; exact ⟨rfl, hF⟩) | (rw [Gs.getC_out (by assumption)]; exact ⟨rfl, hF⟩)

/-- (*greenscreen/plane.Plane).Set -/
theorem c_Plane_Set {r c cur : Int} {A : Option Addr} {n cp bp B0 : Nat} {cs : List Gs.Cell} {w : World} (h_bp : w.heap[bp]? = some (.cells #[.int .i64 r, .int .i64 c, .slice A n cp, .int .i64 cur] 102 (0, 0))) (own_p : Own B0 w 45 5 (.slice A n cp) (rows Gs.cv cs)) (hn : n = cs.length) {i : Int} {x : Gs.Cell} :
    Calls Try.prog 37 #[.pointer (some ⟨bp, 0, none⟩), .int .i64 i, .agg (Gs.cv x).toArray] w fun e w' => ∃ v, e = .returned v ∧ v = .bool (decide (0 ≤ i ∧ i < cs.length)) ∧ Own B0 w' 45 5 (.slice A n cp) (rows Gs.cv (Gs.setC cs i x)) ∧ Upd (ownS (.slice A n cp)) w w' := by
  refine F37.calls ?_
  unfold F37
  have lt_h_bp := lt_get h_bp
  have lt_own_p := Own.lt own_p
  have hF : Upd (ownS (.slice A n cp)) w w := Fr.refl _ _ _
  refine box_intro (cs := (Gs.cv x).toArray) (by rfl) (fun b1 w1 e1 h_b1 _ U1 => ?_)
  have ne_bp_b1 : bp ≠ b1 := by have := lt_get h_bp; omega
  have na_own_p_b1 := own_p.apart e1
  have ge_b1 : w.heap.size ≤ b1 := by have := hF.size; omega
  replace own_p := own_p.upd0 U1
  replace h_bp := U1.get0 h_bp
  replace hF := hF.go0 U1
  clear e1
  refine callF_bool (c_Plane_has h_bp own_p hn) (fun w2 U2 h2 => ?_) (fun w2 U2 h2 => ?_)
  · replace own_p := own_p.upd0 U2
    replace h_bp := U2.get0 h_bp
    replace h_b1 := U2.get0 h_b1
    replace hF := hF.go0 U2
    try simp only [decide_eq_true_eq, decide_eq_false_iff_not] at h2
    refine opv_run (notT) ?_
    refine condf ?_
    refine drawn_S (S := no) (fun w3 U3 => ?_)
    replace own_p := own_p.upd0 U3
    replace h_bp := U3.get0 h_bp
    replace h_b1 := U3.get0 h_b1
    replace hF := hF.go0 U3
    refine qnilckp ?_
    refine qop_run (fun w' hw' => (fieldAt_eq (off := 2) (by kernel_rfl))) ?_
    refine qop_run (fun w' hw' => by have h_bp := hw'.get0 h_bp; exact (ldC (by kernel_rfl) h_bp (by rfl))) ?_
    refine qop_run (fun w' hw' => by have h_b1 := hw'.get0 h_b1; exact (ldA (n := 5) (cs' := (Gs.cv x).toArray) (by kernel_rfl) h_b1 (by first | exact Nat.le_of_ble_eq_true rfl | (simp; done) | omega) (by rfl))) ?_
    obtain ⟨g4, hg4, _⟩ := own_p.at (by rw [rows_len Gs.encC]; omega)
    first | subst hg4 | cases hg4
    refine qop_run (fun w' hw' => (index_slice (n := 5) (by kernel_rfl) (by omega) (by omega))) ?_
    refine ext_intro (fun w5 U5 => ?_)
    replace own_p := own_p.upd0 U5
    replace h_bp := U5.get0 h_bp
    replace h_b1 := U5.get0 h_b1
    replace hF := hF.go0 U5
    refine store_row (i := i) Gs.encC (by kernel_rfl) own_p (by omega) (by omega) rfl (fun w6 N6 _ U6 => ?_)
    have own_p_o := own_p
    replace h_bp := U6.get h_bp (fun h => by first | (have := Own.ge own_p_o h; omega) | exact Own.ne_blk own_p_o h_bp (by decide) _ h rfl | exact Own.not_loop own_p_o h_bp (by assumption) _ h rfl | exact Own.not_def own_p_o h_bp _ h rfl | simp_all)
    replace own_p := N6
    replace h_b1 := U6.get h_b1 (fun h => na_own_p_b1 _ h rfl)
    replace hF := hF.go U6 (fun i h hs => by first | exact hs | exact .inl hs | exact .inr hs | (have := (Own.ge own_p_o hs).1; omega))
    clear own_p_o
    refine ext_intro (fun w7 U7 => ?_)
    replace own_p := own_p.upd0 U7
    replace h_bp := U7.get0 h_bp
    replace h_b1 := U7.get0 h_b1
    replace hF := hF.go0 U7
    first | exact ⟨_, rfl, by rw [decide_eq_true (by omega)], by rw [Gs.setC_in x (by omega) (by omega)]; exact own_p, hF⟩ | exact ⟨_, rfl, by rw [decide_eq_false (by assumption)], by rw [Gs.setC_out x (by assumption)]; exact own_p, hF⟩
  · replace own_p := own_p.upd0 U2
    replace h_bp := U2.get0 h_bp
    replace h_b1 := U2.get0 h_b1
    replace hF := hF.go0 U2
    try simp only [decide_eq_true_eq, decide_eq_false_iff_not] at h2
    refine opv_run (notF) ?_
    refine condt ?_
    first | exact ⟨_, rfl, by rw [decide_eq_true (by omega)], by rw [Gs.setC_in x (by omega) (by omega)]; exact own_p, hF⟩ | exact ⟨_, rfl, by rw [decide_eq_false (by assumption)], by rw [Gs.setC_out x (by assumption)]; exact own_p, hF⟩

end Go.Proofs.Ytojcbhkhfcddnaa
