/-
  8 texts in one: what each theorem says stands at it. No condition but the ones that each states.
-/
import Derived.Test.YtjdoakbadehicaaGreatDoorF
import Derived.Test.YtjdoakbadehicaaGreatDoorRow
import Derived.Test.YtjdoakbadehicaaGreatDoorPlaneModel
import Derived.Test.YtjdoakbadehicaaGreatDoorProg
import Derived.Test.YtjdoakbadehicaaGreatDoorShSound
import Derived.KernelRfl
import Derived.Test.YtjdoakbadehicaaGreatDoorFieldModel
import Derived.Test.YtjdoakbadehicaaGreatDoorBits2
import Derived.Test.YtjdoakbadehicaaGreatDoorCodeC
namespace Go.Proofs.YtjdoakbadehicaaGreatDoor
open Go Go.Sh
set_option linter.unusedVariables false
set_option maxRecDepth 100000


theorem eqIn_Cell (w : World) {a b : Gs.Cell} : (Op.equalIn 10000 37 (.agg (Gs.cv a).toArray) (.agg (Gs.cv b).toArray)).run Tryz.prog w = .ok (decide (a = b)) w := by
  have hf : plainF Tryz.prog ((Tryz.prog).fieldsOf 37).toList = some [(5, 0), (4, 1), (4, 2), (5, 3), (5, 4)] := by kernel_rfl
  rw [show (10000 : Nat) = 9999 + 1 from rfl, run_equalIn_agg w 9999 37 _ _ (by kernel_rfl) (by kernel_rfl)]
  generalize ((Tryz.prog).fieldsOf 37).toList = fs0 at hf
  obtain ⟨f0, fs1, rfl⟩ := plain_cons hf
  obtain ⟨hf, e0⟩ := eqF_cons (w := w) (d := 9999) (xs := (Gs.cv a).toArray) (ys := (Gs.cv b).toArray) hf rfl rfl (fun w => run_equalIn_int w 9998 5 .u8 .u8 a.b b.b (by kernel_rfl))
  obtain ⟨f1, fs2, rfl⟩ := plain_cons hf
  obtain ⟨hf, e1⟩ := eqF_cons (w := w) (d := 9999) (xs := (Gs.cv a).toArray) (ys := (Gs.cv b).toArray) hf rfl rfl (fun w => run_equalIn_bool' w 9998 4 a.ge b.ge (by kernel_rfl))
  obtain ⟨f2, fs3, rfl⟩ := plain_cons hf
  obtain ⟨hf, e2⟩ := eqF_cons (w := w) (d := 9999) (xs := (Gs.cv a).toArray) (ys := (Gs.cv b).toArray) hf rfl rfl (fun w => run_equalIn_bool' w 9998 4 a.st b.st (by kernel_rfl))
  obtain ⟨f3, fs4, rfl⟩ := plain_cons hf
  obtain ⟨hf, e3⟩ := eqF_cons (w := w) (d := 9999) (xs := (Gs.cv a).toArray) (ys := (Gs.cv b).toArray) hf rfl rfl (fun w => run_equalIn_int w 9998 5 .u8 .u8 a.l b.l (by kernel_rfl))
  obtain ⟨f4, fs5, rfl⟩ := plain_cons hf
  obtain ⟨hf, e4⟩ := eqF_cons (w := w) (d := 9999) (xs := (Gs.cv a).toArray) (ys := (Gs.cv b).toArray) hf rfl rfl (fun w => run_equalIn_int w 9998 5 .u8 .u8 a.c b.c (by kernel_rfl))
  have hn := plain_nil hf; subst hn
  rw [e0]; clear e0
  rw [e1]; clear e1
  rw [e2]; clear e2
  rw [e3]; clear e3
  rw [e4]; clear e4
  rw [eqF_nil]
  obtain ⟨a1, a2, a3, a4, a5⟩ := a; obtain ⟨b1, b2, b3, b4, b5⟩ := b
  simp only [Gs.Cell.mk.injEq, beq_iff_eq]
  by_cases h1 : a1 = b1 <;> by_cases h2 : a2 = b2 <;> by_cases h3 : a3 = b3 <;> by_cases h4 : a4 = b4 <;> by_cases h5 : a5 = b5 <;> simp [h1, h2, h3, h4, h5]
theorem eq_Cell (q : Bool) {w : World} {a b : Gs.Cell} : (binE q .eql 37 (.agg (Gs.cv a).toArray) (.agg (Gs.cv b).toArray)).run Tryz.prog w = .ok (.bool (decide (a = b))) w := eqA (by kernel_rfl) fun w => eqIn_Cell w
theorem ne_Cell (q : Bool) {w : World} {a b : Gs.Cell} : (binE q .neq 37 (.agg (Gs.cv a).toArray) (.agg (Gs.cv b).toArray)).run Tryz.prog w = .ok (.bool (decide (¬ (a = b)))) w := by
  rw [neA (by kernel_rfl) fun w => eqIn_Cell w]; simp

theorem eqIn_Size (w : World) {r c r' c' : Int} : (Op.equalIn 10000 32 (.agg #[.int .i64 r, .int .i64 c]) (.agg #[.int .i64 r', .int .i64 c'])).run Tryz.prog w = .ok (decide (r = r' ∧ c = c')) w := by
  have hf : plainF Tryz.prog ((Tryz.prog).fieldsOf 32).toList = some [(3, 0), (3, 1)] := by kernel_rfl
  rw [show (10000 : Nat) = 9999 + 1 from rfl, run_equalIn_agg w 9999 32 _ _ (by kernel_rfl) (by kernel_rfl)]
  generalize ((Tryz.prog).fieldsOf 32).toList = fs0 at hf
  obtain ⟨f0, fs1, rfl⟩ := plain_cons hf
  obtain ⟨hf, e0⟩ := eqF_cons (w := w) (d := 9999) (xs := #[.int .i64 r, .int .i64 c]) (ys := #[.int .i64 r', .int .i64 c']) hf rfl rfl (fun w => run_equalIn_int w 9998 3 .i64 .i64 r r' (by kernel_rfl))
  obtain ⟨f1, fs2, rfl⟩ := plain_cons hf
  obtain ⟨hf, e1⟩ := eqF_cons (w := w) (d := 9999) (xs := #[.int .i64 r, .int .i64 c]) (ys := #[.int .i64 r', .int .i64 c']) hf rfl rfl (fun w => run_equalIn_int w 9998 3 .i64 .i64 c c' (by kernel_rfl))
  have hn := plain_nil hf; subst hn
  rw [e0]; clear e0
  rw [e1]; clear e1
  rw [eqF_nil]
  simp only [beq_iff_eq]
  by_cases h1 : r = r' <;> by_cases h2 : c = c' <;> simp [h1, h2]
theorem eq_Size (q : Bool) {w : World} {r c r' c' : Int} : (binE q .eql 32 (.agg #[.int .i64 r, .int .i64 c]) (.agg #[.int .i64 r', .int .i64 c'])).run Tryz.prog w = .ok (.bool (decide (r = r' ∧ c = c'))) w := eqA (by kernel_rfl) fun w => eqIn_Size w
theorem ne_Size (q : Bool) {w : World} {r c r' c' : Int} : (binE q .neq 32 (.agg #[.int .i64 r, .int .i64 c]) (.agg #[.int .i64 r', .int .i64 c'])).run Tryz.prog w = .ok (.bool (decide (¬ (r = r' ∧ c = c')))) w := by
  rw [neA (by kernel_rfl) fun w => eqIn_Size w]; simp

/-- greenscreen/addr.Cells -/
theorem c_addr_Cells {r c : Int} {w : World} :
    Calls Tryz.prog 43 #[.agg #[.int .i64 r, .int .i64 c]] w fun e w' => e = .returned (.int .i64 (Gs.cellsN r c)) ∧ Upd no w w' := by
  refine F43.calls ?_
  unfold F43
  have hF : Upd no w w := Fr.refl _ _ _
  refine box_intro (by rfl) (fun b1 w1 e1 h_b1 _ U1 => ?_)
  have ge_b1 : w.heap.size ≤ b1 := by have := hF.size; omega
  replace hF := hF.go0 U1
  clear e1
  refine opv_run (fieldAt_eq (off := 0) (by kernel_rfl)) ?_
  refine opv_run (ldC (by kernel_rfl) h_b1 (by rfl)) ?_
  refine opv_run (fieldAt_eq (off := 1) (by kernel_rfl)) ?_
  refine opv_run (ldC (by kernel_rfl) h_b1 (by rfl)) ?_
  first | refine opv_run (mul_i64 _ (by omega)) ?_ | refine opv_run (mulI _ _ _ _) ?_
  refine opv_run (fieldAt_eq (off := 0) (by kernel_rfl)) ?_
  refine opv_run (ldC (by kernel_rfl) h_b1 (by rfl)) ?_
  refine opv_dec (lss _ _ _ _) (fun h2 => ?_) (fun h2 => ?_)
  · refine gdtf ?_
    refine gdtf ?_
    refine gdtf ?_
    refine pickt ?_
    refine gdtf ?_
    refine gdtf ?_
    refine gdtf ?_
    refine pickt ?_
    refine gdtf ?_
    refine gdtf ?_
    refine gdtf ?_
    refine pickt ?_
    refine gdtf ?_
    refine gdtf ?_
    refine pickt ?_
    refine condt ?_
    first | exact ⟨retI (Gs.cells_0 (by omega)), hF⟩ | exact ⟨retI (Gs.cells_b (by assumption) (by assumption) (by assumption) (by assumption) (by assumption)), hF⟩ | exact ⟨retI (Gs.cells_n (by assumption) (by assumption) (by assumption) (by assumption) (by assumption)), hF⟩
  · refine gdff ?_
    refine opv_run (fieldAt_eq (off := 0) (by kernel_rfl)) ?_
    refine gdff ?_
    refine opv_run (ldC (by kernel_rfl) h_b1 (by rfl)) ?_
    refine gdff ?_
    refine opv_dec (gtr _ _ _ _) (fun h4 => ?_) (fun h4 => ?_)
    · refine pickf ?_
      refine gdtf ?_
      refine gdtf ?_
      refine gdtf ?_
      refine pickt ?_
      refine gdtf ?_
      refine gdtf ?_
      refine gdtf ?_
      refine pickt ?_
      refine gdtf ?_
      refine gdtf ?_
      refine pickt ?_
      refine condt ?_
      first | exact ⟨retI (Gs.cells_0 (by omega)), hF⟩ | exact ⟨retI (Gs.cells_b (by assumption) (by assumption) (by assumption) (by assumption) (by assumption)), hF⟩ | exact ⟨retI (Gs.cells_n (by assumption) (by assumption) (by assumption) (by assumption) (by assumption)), hF⟩
    · refine pickf ?_
      refine gdff ?_
      refine opv_run (fieldAt_eq (off := 1) (by kernel_rfl)) ?_
      refine gdff ?_
      refine opv_run (ldC (by kernel_rfl) h_b1 (by rfl)) ?_
      refine gdff ?_
      refine opv_dec (lss _ _ _ _) (fun h6 => ?_) (fun h6 => ?_)
      · refine pickf ?_
        refine gdtf ?_
        refine gdtf ?_
        refine gdtf ?_
        refine pickt ?_
        refine gdtf ?_
        refine gdtf ?_
        refine pickt ?_
        refine condt ?_
        first | exact ⟨retI (Gs.cells_0 (by omega)), hF⟩ | exact ⟨retI (Gs.cells_b (by assumption) (by assumption) (by assumption) (by assumption) (by assumption)), hF⟩ | exact ⟨retI (Gs.cells_n (by assumption) (by assumption) (by assumption) (by assumption) (by assumption)), hF⟩
      · refine pickf ?_
        refine gdff ?_
        refine opv_run (fieldAt_eq (off := 1) (by kernel_rfl)) ?_
        refine gdff ?_
        refine opv_run (ldC (by kernel_rfl) h_b1 (by rfl)) ?_
        refine gdff ?_
        refine opv_dec (gtr _ _ _ _) (fun h8 => ?_) (fun h8 => ?_)
        · refine pickf ?_
          refine gdtf ?_
          refine gdtf ?_
          refine pickt ?_
          refine condt ?_
          first | exact ⟨retI (Gs.cells_0 (by omega)), hF⟩ | exact ⟨retI (Gs.cells_b (by assumption) (by assumption) (by assumption) (by assumption) (by assumption)), hF⟩ | exact ⟨retI (Gs.cells_n (by assumption) (by assumption) (by assumption) (by assumption) (by assumption)), hF⟩
        · refine pickf ?_
          refine gdff ?_
          refine gdff ?_
          refine opv_dec (gtr _ _ _ _) (fun h10 => ?_) (fun h10 => ?_)
          · refine pickf ?_
            refine condt ?_
            first | exact ⟨retI (Gs.cells_0 (by omega)), hF⟩ | exact ⟨retI (Gs.cells_b (by assumption) (by assumption) (by assumption) (by assumption) (by assumption)), hF⟩ | exact ⟨retI (Gs.cells_n (by assumption) (by assumption) (by assumption) (by assumption) (by assumption)), hF⟩
          · refine pickf ?_
            refine condf ?_
            first | exact ⟨retI (Gs.cells_0 (by omega)), hF⟩ | exact ⟨retI (Gs.cells_b (by assumption) (by assumption) (by assumption) (by assumption) (by assumption)), hF⟩ | exact ⟨retI (Gs.cells_n (by assumption) (by assumption) (by assumption) (by assumption) (by assumption)), hF⟩

/-- (*greenscreen/plane.Plane).has -/
theorem c_Plane_has {r c cur : Int} {A : Option Addr} {n cp bp B0 : Nat} {cs : List Gs.Cell} {w : World} (h_bp : w.heap[bp]? = some (.cells #[.int .i64 r, .int .i64 c, .slice A n cp, .int .i64 cur] 91 (0, 0))) (own_p : Own B0 w 37 5 (.slice A n cp) (rows Gs.cv cs)) (hn : n = cs.length) {i : Int} :
    Calls Tryz.prog 45 #[.pointer (some ⟨bp, 0, none⟩), .int .i64 i] w fun e w' => e = .returned (.bool (decide (0 ≤ i ∧ i < cs.length))) ∧ Upd no w w' := by
  refine F45.calls ?_
  unfold F45
  have lt_h_bp := lt_get h_bp
  have lt_own_p := Own.lt own_p
  have hF : Upd no w w := Fr.refl _ _ _
  refine opv_dec (geq _ _ _ _) (fun h1 => ?_) (fun h1 => ?_)
  · refine gdtt ?_
    refine gdtt ?_
    refine gdtt ?_
    refine nilckp ?_
    refine gdtt ?_
    refine opv_run (fieldAt_eq (off := 2) (by kernel_rfl)) ?_
    refine gdtt ?_
    refine opv_run (ldC (by kernel_rfl) h_bp (by rfl)) ?_
    refine gdtt ?_
    refine opv_run (len_sl (by kernel_rfl) _ _ _) ?_
    refine gdtt ?_
    refine opv_run (lss _ _ _ _) ?_
    refine pickt ?_
    first | exact ⟨retB (by omega), hF⟩ | exact ⟨retT (by omega), hF⟩ | exact ⟨retF (by omega), hF⟩
  · refine gdft ?_
    refine gdft ?_
    refine gdft ?_
    refine gdft ?_
    refine gdft ?_
    refine gdft ?_
    refine gdft ?_
    refine pickf ?_
    first | exact ⟨retB (by omega), hF⟩ | exact ⟨retT (by omega), hF⟩ | exact ⟨retF (by omega), hF⟩

/-- (*greenscreen/plane.Plane).Len -/
theorem c_Plane_Len {r c cur : Int} {A : Option Addr} {n cp bp B0 : Nat} {cs : List Gs.Cell} {w : World} (h_bp : w.heap[bp]? = some (.cells #[.int .i64 r, .int .i64 c, .slice A n cp, .int .i64 cur] 91 (0, 0))) (own_p : Own B0 w 37 5 (.slice A n cp) (rows Gs.cv cs)) (hn : n = cs.length)  :
    Calls Tryz.prog 30 #[.pointer (some ⟨bp, 0, none⟩)] w fun e w' => e = .returned (.int .i64 n) ∧ Upd no w w' := by
  refine F30.calls ?_
  unfold F30
  have lt_h_bp := lt_get h_bp
  have lt_own_p := Own.lt own_p
  have hF : Upd no w w := Fr.refl _ _ _
  refine nilckp ?_
  refine opv_run (fieldAt_eq (off := 2) (by kernel_rfl)) ?_
  refine opv_run (ldC (by kernel_rfl) h_bp (by rfl)) ?_
  refine opv_run (len_sl (by kernel_rfl) _ _ _) ?_
  exact ⟨rfl, hF⟩

/-- (*greenscreen/plane.Plane).Cursor -/
theorem c_Plane_Cursor {r c cur : Int} {A : Option Addr} {n cp bp B0 : Nat} {cs : List Gs.Cell} {w : World} (h_bp : w.heap[bp]? = some (.cells #[.int .i64 r, .int .i64 c, .slice A n cp, .int .i64 cur] 91 (0, 0))) (own_p : Own B0 w 37 5 (.slice A n cp) (rows Gs.cv cs)) (hn : n = cs.length)  :
    Calls Tryz.prog 24 #[.pointer (some ⟨bp, 0, none⟩)] w fun e w' => e = .returned (.int .i64 cur) ∧ Upd no w w' := by
  refine F24.calls ?_
  unfold F24
  have lt_h_bp := lt_get h_bp
  have lt_own_p := Own.lt own_p
  have hF : Upd no w w := Fr.refl _ _ _
  refine nilckp ?_
  refine opv_run (fieldAt_eq (off := 3) (by kernel_rfl)) ?_
  refine opv_run (ldC (by kernel_rfl) h_bp (by rfl)) ?_
  exact ⟨rfl, hF⟩

/-- (*greenscreen/plane.Plane).Size -/
theorem c_Plane_Size {r c cur : Int} {A : Option Addr} {n cp bp B0 : Nat} {cs : List Gs.Cell} {w : World} (h_bp : w.heap[bp]? = some (.cells #[.int .i64 r, .int .i64 c, .slice A n cp, .int .i64 cur] 91 (0, 0))) (own_p : Own B0 w 37 5 (.slice A n cp) (rows Gs.cv cs)) (hn : n = cs.length)  :
    Calls Tryz.prog 112 #[.pointer (some ⟨bp, 0, none⟩)] w fun e w' => e = .returned (.agg #[.int .i64 r, .int .i64 c]) ∧ Upd no w w' := by
  refine F112.calls ?_
  unfold F112
  have lt_h_bp := lt_get h_bp
  have lt_own_p := Own.lt own_p
  have hF : Upd no w w := Fr.refl _ _ _
  refine alloc_intro (cs := #[.int .i64 0, .int .i64 0]) (by kernel_rfl) (fun b1 w1 e1 h_b1 _ U1 => ?_)
  have ne_bp_b1 : bp ≠ b1 := by have := lt_get h_bp; omega
  have na_own_p_b1 := own_p.apart e1
  have ge_b1 : w.heap.size ≤ b1 := by have := hF.size; omega
  replace own_p := own_p.upd0 U1
  replace h_bp := U1.get0 h_bp
  replace hF := hF.go0 U1
  clear e1
  refine nilckp ?_
  refine opv_run (fieldAt_eq (off := 0) (by kernel_rfl)) ?_
  refine opv_run (ldA (n := 2) (by kernel_rfl) h_bp (by first | exact Nat.le_of_ble_eq_true rfl | (simp; done) | omega) (by rfl)) ?_
  refine store_intro (n := 2) (by kernel_rfl) (by rfl) (by first | rfl | (simp [Value.cells, Value.oneCell', Gs.cv]; done)) h_b1 (by first | exact Nat.le_of_ble_eq_true rfl | (simp; done) | omega) (by first | (simp; rfl) | rfl) (fun w2 N2 _ U2 => ?_)
  replace own_p := own_p.upd1 U2 na_own_p_b1
  replace h_bp := U2.get1 h_bp ne_bp_b1
  replace h_b1 := N2
  replace hF := hF.go1 U2 ge_b1
  refine ldv_run (ldA (n := 2) (by kernel_rfl) h_b1 (by first | exact Nat.le_of_ble_eq_true rfl | simp | omega) (by rfl)) ?_
  exact ⟨rfl, hF⟩

/-- (*greenscreen/plane.Plane).At -/
theorem c_Plane_At {r c cur : Int} {A : Option Addr} {n cp bp B0 : Nat} {cs : List Gs.Cell} {w : World} (h_bp : w.heap[bp]? = some (.cells #[.int .i64 r, .int .i64 c, .slice A n cp, .int .i64 cur] 91 (0, 0))) (own_p : Own B0 w 37 5 (.slice A n cp) (rows Gs.cv cs)) (hn : n = cs.length) {i : Int} :
    Calls Tryz.prog 31 #[.pointer (some ⟨bp, 0, none⟩), .int .i64 i] w fun e w' => e = .returned (.agg (Gs.cv (Gs.getC cs i)).toArray) ∧ Upd no w w' := by
  refine F31.calls ?_
  unfold F31
  have lt_h_bp := lt_get h_bp
  have lt_own_p := Own.lt own_p
  have hF : Upd no w w := Fr.refl _ _ _
  refine alloc_intro (cs := (Gs.cv Gs.zc).toArray) (by kernel_rfl) (fun b1 w1 e1 h_b1 _ U1 => ?_)
  have ne_bp_b1 : bp ≠ b1 := by have := lt_get h_bp; omega
  have na_own_p_b1 := own_p.apart e1
  have ge_b1 : w.heap.size ≤ b1 := by have := hF.size; omega
  replace own_p := own_p.upd0 U1
  replace h_bp := U1.get0 h_bp
  replace hF := hF.go0 U1
  clear e1
  refine callF_bool (c_Plane_has h_bp own_p hn) (fun w2 U2 h2 => ?_) (fun w2 U2 h2 => ?_)
  · replace own_p := own_p.upd0 U2
    replace h_bp := U2.get0 h_bp
    replace h_b1 := U2.get0 h_b1
    replace hF := hF.go0 U2
    try simp only [decide_eq_true_eq, decide_eq_false_iff_not] at h2
    refine opv_run (notT) ?_
    refine condf ?_
    refine nilckp ?_
    refine opv_run (fieldAt_eq (off := 2) (by kernel_rfl)) ?_
    refine opv_run (ldC (by kernel_rfl) h_bp (by rfl)) ?_
    refine idx_rows Gs.encC (by kernel_rfl) (by kernel_rfl) own_p.rdS (by first | rfl | assumption | omega) (by omega) (by omega) (fun x3 hx3 => ?_)
    try simp only [Int.toNat_natCast] at hx3
    refine store_intro (n := 5) (cs' := (Gs.cv x3).toArray) (by kernel_rfl) (by rfl) (by first | rfl | (simp [Value.cells, Value.oneCell', Gs.cv]; done)) h_b1 (by first | exact Nat.le_of_ble_eq_true rfl | (simp; done) | omega) (by rfl) (fun w4 N4 _ U4 => ?_)
    replace own_p := own_p.upd1 U4 na_own_p_b1
    replace h_bp := U4.get1 h_bp ne_bp_b1
    replace h_b1 := N4
    replace hF := hF.go1 U4 ge_b1
    refine ldv_run (ldA (n := 5) (by kernel_rfl) h_b1 (by first | exact Nat.le_of_ble_eq_true rfl | simp | omega) (by rfl)) ?_
    first | (rw [Gs.getC_in (by omega) hx3]; exact ⟨rfl, hF⟩) | (rw [Gs.getC_out (by assumption)]; exact ⟨rfl, hF⟩)
  · replace own_p := own_p.upd0 U2
    replace h_bp := U2.get0 h_bp
    replace h_b1 := U2.get0 h_b1
    replace hF := hF.go0 U2
    try simp only [decide_eq_true_eq, decide_eq_false_iff_not] at h2
    refine opv_run (notF) ?_
    refine condt ?_
    refine opv_run (build_eq (l := [(0, 1), (1, 1), (2, 1), (3, 1), (4, 1)]) (z := #[.int .u8 0, .bool false, .bool false, .int .u8 0, .int .u8 0]) (cs := (Gs.cv Gs.zc)) (by kernel_rfl) (by rfl)) ?_
    refine store_intro (n := 5) (cs' := (Gs.cv Gs.zc).toArray) (by kernel_rfl) (by rfl) (by first | rfl | (simp [Value.cells, Value.oneCell', Gs.cv]; done)) h_b1 (by first | exact Nat.le_of_ble_eq_true rfl | (simp; done) | omega) (by rfl) (fun w6 N6 _ U6 => ?_)
    replace own_p := own_p.upd1 U6 na_own_p_b1
    replace h_bp := U6.get1 h_bp ne_bp_b1
    replace h_b1 := N6
    replace hF := hF.go1 U6 ge_b1
    refine ldv_run (ldA (n := 5) (by kernel_rfl) h_b1 (by first | exact Nat.le_of_ble_eq_true rfl | simp | omega) (by rfl)) ?_
    first | (rw [Gs.getC_in (by omega) hx3]; exact ⟨rfl, hF⟩) | (rw [Gs.getC_out (by assumption)]; exact ⟨rfl, hF⟩)

/-- (*greenscreen/plane.Plane).Set -/
theorem c_Plane_Set {r c cur : Int} {A : Option Addr} {n cp bp B0 : Nat} {cs : List Gs.Cell} {w : World} (h_bp : w.heap[bp]? = some (.cells #[.int .i64 r, .int .i64 c, .slice A n cp, .int .i64 cur] 91 (0, 0))) (own_p : Own B0 w 37 5 (.slice A n cp) (rows Gs.cv cs)) (hn : n = cs.length) {i : Int} {x : Gs.Cell} :
    Calls Tryz.prog 14 #[.pointer (some ⟨bp, 0, none⟩), .int .i64 i, .agg (Gs.cv x).toArray] w fun e w' => ∃ v, e = .returned v ∧ v = .bool (decide (0 ≤ i ∧ i < cs.length)) ∧ Own B0 w' 37 5 (.slice A n cp) (rows Gs.cv (Gs.setC cs i x)) ∧ Upd (ownS (.slice A n cp)) w w' := by
  refine F14.calls ?_
  unfold F14
  have lt_h_bp := lt_get h_bp
  have lt_own_p := Own.lt own_p
  have hF : Upd (ownS (.slice A n cp)) w w := Fr.refl _ _ _
  refine box_intro (cs := (Gs.cv x).toArray) (by rfl) (fun b1 w1 e1 h_b1 _ U1 => ?_)
  have ne_bp_b1 : bp ≠ b1 := by have := lt_get h_bp; omega
  have na_own_p_b1 := own_p.apart e1
  have ge_b1 : w.heap.size ≤ b1 := by have := hF.size; omega
  replace own_p := own_p.upd0 U1
  replace h_bp := U1.get0 h_bp
  replace hF := hF.go0 U1
  clear e1
  refine callF_bool (c_Plane_has h_bp own_p hn) (fun w2 U2 h2 => ?_) (fun w2 U2 h2 => ?_)
  · replace own_p := own_p.upd0 U2
    replace h_bp := U2.get0 h_bp
    replace h_b1 := U2.get0 h_b1
    replace hF := hF.go0 U2
    try simp only [decide_eq_true_eq, decide_eq_false_iff_not] at h2
    refine opv_run (notT) ?_
    refine condf ?_
    refine drawn_S (S := no) (fun w3 U3 => ?_)
    replace own_p := own_p.upd0 U3
    replace h_bp := U3.get0 h_bp
    replace h_b1 := U3.get0 h_b1
    replace hF := hF.go0 U3
    refine qnilckp ?_
    refine qop_run (fun w' hw' => (fieldAt_eq (off := 2) (by kernel_rfl))) ?_
    refine qop_run (fun w' hw' => by have h_bp := hw'.get0 h_bp; exact (ldC (by kernel_rfl) h_bp (by rfl))) ?_
    refine qop_run (fun w' hw' => by have h_b1 := hw'.get0 h_b1; exact (ldA (n := 5) (cs' := (Gs.cv x).toArray) (by kernel_rfl) h_b1 (by first | exact Nat.le_of_ble_eq_true rfl | (simp; done) | omega) (by rfl))) ?_
    obtain ⟨g4, hg4, _⟩ := own_p.at (by rw [rows_len Gs.encC]; omega)
    first | subst hg4 | cases hg4
    refine qop_run (fun w' hw' => (index_slice (n := 5) (by kernel_rfl) (by omega) (by omega))) ?_
    refine ext_intro (fun w5 U5 => ?_)
    replace own_p := own_p.upd0 U5
    replace h_bp := U5.get0 h_bp
    replace h_b1 := U5.get0 h_b1
    replace hF := hF.go0 U5
    refine store_row (i := i) Gs.encC (by kernel_rfl) own_p (by omega) (by omega) rfl (fun w6 N6 _ U6 => ?_)
    have own_p_o := own_p
    replace h_bp := U6.get h_bp (fun h => by first | (have := Own.ge own_p_o h; omega) | exact Own.ne_blk own_p_o h_bp (by decide) _ h rfl | exact Own.not_loop own_p_o h_bp (by assumption) _ h rfl | exact Own.not_def own_p_o h_bp _ h rfl | simp_all)
    replace own_p := N6
    replace h_b1 := U6.get h_b1 (fun h => na_own_p_b1 _ h rfl)
    replace hF := hF.go U6 (fun i h hs => by first | exact hs | exact .inl hs | exact .inr hs | (have := (Own.ge own_p_o hs).1; omega))
    clear own_p_o
    refine ext_intro (fun w7 U7 => ?_)
    replace own_p := own_p.upd0 U7
    replace h_bp := U7.get0 h_bp
    replace h_b1 := U7.get0 h_b1
    replace hF := hF.go0 U7
    first | exact ⟨_, rfl, by rw [decide_eq_true (by omega)], by rw [Gs.setC_in x (by omega) (by omega)]; exact own_p, hF⟩ | exact ⟨_, rfl, by rw [decide_eq_false (by assumption)], by rw [Gs.setC_out x (by assumption)]; exact own_p, hF⟩
  · replace own_p := own_p.upd0 U2
    replace h_bp := U2.get0 h_bp
    replace h_b1 := U2.get0 h_b1
    replace hF := hF.go0 U2
    try simp only [decide_eq_true_eq, decide_eq_false_iff_not] at h2
    refine opv_run (notF) ?_
    refine condt ?_
    first | exact ⟨_, rfl, by rw [decide_eq_true (by omega)], by rw [Gs.setC_in x (by omega) (by omega)]; exact own_p, hF⟩ | exact ⟨_, rfl, by rw [decide_eq_false (by assumption)], by rw [Gs.setC_out x (by assumption)]; exact own_p, hF⟩

/-- (*greenscreen/plane.Plane).Point -/
theorem c_Plane_Point {r c cur : Int} {A : Option Addr} {n cp bp B0 : Nat} {cs : List Gs.Cell} {w : World} (h_bp : w.heap[bp]? = some (.cells #[.int .i64 r, .int .i64 c, .slice A n cp, .int .i64 cur] 91 (0, 0))) (own_p : Own B0 w 37 5 (.slice A n cp) (rows Gs.cv cs)) (hn : n = cs.length) {i : Int} :
    Calls Tryz.prog 36 #[.pointer (some ⟨bp, 0, none⟩), .int .i64 i] w fun e w' => ∃ v, e = .returned v ∧ v = .bool (decide (0 ≤ i ∧ i < cs.length)) ∧ w'.heap[bp]? = some (.cells #[.int .i64 r, .int .i64 c, .slice A n cp, .int .i64 (if 0 ≤ i ∧ i < cs.length then i else cur)] 91 (0, 0)) ∧ Upd (· = bp) w w' := by
  refine F36.calls ?_
  unfold F36
  have lt_h_bp := lt_get h_bp
  have lt_own_p := Own.lt own_p
  have hF : Upd (· = bp) w w := Fr.refl _ _ _
  refine callF_bool (c_Plane_has h_bp own_p hn) (fun w1 U1 h1 => ?_) (fun w1 U1 h1 => ?_)
  · replace own_p := own_p.upd0 U1
    replace h_bp := U1.get0 h_bp
    replace hF := hF.go0 U1
    try simp only [decide_eq_true_eq, decide_eq_false_iff_not] at h1
    refine opv_run (notT) ?_
    refine condf ?_
    refine nilckp ?_
    refine opv_run (fieldAt_eq (off := 3) (by kernel_rfl)) ?_
    refine store1_intro (by kernel_rfl) rfl rfl h_bp (by first | exact Nat.le_of_ble_eq_true rfl | (simp; done) | omega | (simp [vals_length, *]; done) | (simp [vals_length, *]; omega)) (by first | (simp [vals_set]; rfl) | rfl) (fun w2 N2 _ U2 => ?_)
    replace own_p := own_p.upd1 U2 (by first | assumption | exact Own.ne_blk own_p (by assumption) (by decide) | exact Own.not_loop own_p (by assumption) (by assumption) | exact Own.not_def own_p (by assumption) | exact Own.not_loop own_p (by assumption) (lp3 _))
    replace h_bp := N2
    replace hF := hF.go U2 (fun i _ h => h)
    first | exact ⟨_, rfl, by rw [decide_eq_true (by omega)], by rw [if_pos (by omega)]; exact h_bp, hF⟩ | exact ⟨_, rfl, by rw [decide_eq_false (by assumption)], by rw [if_neg (by assumption)]; exact h_bp, hF⟩
  · replace own_p := own_p.upd0 U1
    replace h_bp := U1.get0 h_bp
    replace hF := hF.go0 U1
    try simp only [decide_eq_true_eq, decide_eq_false_iff_not] at h1
    refine opv_run (notF) ?_
    refine condt ?_
    first | exact ⟨_, rfl, by rw [decide_eq_true (by omega)], by rw [if_pos (by omega)]; exact h_bp, hF⟩ | exact ⟨_, rfl, by rw [decide_eq_false (by assumption)], by rw [if_neg (by assumption)]; exact h_bp, hF⟩

end Go.Proofs.YtjdoakbadehicaaGreatDoor
namespace Go.Proofs.YtjdoakbadehicaaGreatDoor
open Go Go.Sh
set_option linter.unusedVariables false
set_option maxRecDepth 100000


/-- greenscreen/addr.Move -/
theorem c_addr_Move {r c i j : Int} {w : World} :
    Calls Tryz.prog 111 #[.agg #[.int .i64 r, .int .i64 c], .int .i64 i, .int .i64 j] w fun e w' => e = .returned (.int .i64 (Gs.moveN (Gs.cellsN r c) i j)) ∧ Upd no w w' := by
  refine F111.calls ?_
  unfold F111
  have hcb := Gs.cells_bd r c
  have hF : Upd no w w := Fr.refl _ _ _
  refine box_intro (by rfl) (fun b1 w1 e1 h_b1 _ U1 => ?_)
  have ge_b1 : w.heap.size ≤ b1 := by have := hF.size; omega
  replace hF := hF.go0 U1
  clear e1
  refine opv_run (ldA (n := 2) (by kernel_rfl) h_b1 (by first | exact Nat.le_of_ble_eq_true rfl | (simp; done) | omega) (by rfl)) ?_
  refine callF_val (c_addr_Cells) (fun w2 U2 => ?_)
  replace h_b1 := U2.get0 h_b1
  replace hF := hF.go0 U2
  refine opv_dec (eqI _ _ _ _ _) (fun h3 => ?_) (fun h3 => ?_)
  · refine condt ?_
    first | exact ⟨retI (by unfold Gs.moveN; rw [if_pos (by omega)]), hF⟩ | exact ⟨retI (Gs.move_eq (by omega)), hF⟩
  · refine condf ?_
    refine drawn_S (S := no) (fun w5 U5 => ?_)
    replace h_b1 := U5.get0 h_b1
    replace hF := hF.go0 U5
    refine qop_run (fun w' hw' => (remT _ (by omega) (by omega))) ?_
    refine qop_run (fun w' hw' => (remT _ (by omega) (by omega))) ?_
    have m1 := Gs.tmod_bd i (show 0 < Gs.cellsN r c by omega)
    have m2 := Gs.tmod_bd j (show 0 < Gs.cellsN r c by omega)
    first | refine qop_run (fun w' hw' => (add_i64 _ (by omega))) ?_ | refine qop_run (fun w' hw' => (addI _ _ _ _)) ?_
    refine qop_run (fun w' hw' => (remT _ (by omega) (by omega))) ?_
    have m3 := Gs.tmod_bd (i.tmod (Gs.cellsN r c) + j.tmod (Gs.cellsN r c)) (show 0 < Gs.cellsN r c by omega)
    first | refine qop_run (fun w' hw' => (add_i64 _ (by omega))) ?_ | refine qop_run (fun w' hw' => (addI _ _ _ _)) ?_
    refine qop_run (fun w' hw' => (remT _ (by omega) (by omega))) ?_
    refine ext_intro (fun w6 U6 => ?_)
    replace h_b1 := U6.get0 h_b1
    replace hF := hF.go0 U6
    first | exact ⟨retI (by unfold Gs.moveN; rw [if_pos (by omega)]), hF⟩ | exact ⟨retI (Gs.move_eq (by omega)), hF⟩

/-- greenscreen/plane.New -/
theorem c_plane_New0 {r c : Int} {w : World} (hz : (Gs.cellsN r c) = 0) :
    Calls Tryz.prog 33 #[.agg #[.int .i64 r, .int .i64 c]] w fun e w' => e = .returned (.tuple #[.pointer none, .int .i64 1]) ∧ Upd no w w' := by
  refine F33.calls ?_
  unfold F33
  have hF : Upd no w w := Fr.refl _ _ _
  refine box_intro (by rfl) (fun b1 w1 e1 h_b1 _ U1 => ?_)
  have ge_b1 : w.heap.size ≤ b1 := by have := hF.size; omega
  replace hF := hF.go0 U1
  clear e1
  refine opv_run (ldA (n := 2) (by kernel_rfl) h_b1 (by first | exact Nat.le_of_ble_eq_true rfl | (simp; done) | omega) (by rfl)) ?_
  refine callF_val (c_addr_Cells) (fun w2 U2 => ?_)
  replace h_b1 := U2.get0 h_b1
  replace hF := hF.go0 U2
  refine opv_T (eqI _ _ _ _ _) (hz) ?_
  refine condt ?_
  exact ⟨rfl, hF⟩

/-- greenscreen/plane.New -/
theorem c_plane_New1 {r c : Int} {w : World} (hz : (Gs.cellsN r c) ≠ 0) :
    Calls Tryz.prog 33 #[.agg #[.int .i64 r, .int .i64 c]] w fun e w' => ∃ v, e = .returned v ∧ ∃ bp g, v = .tuple #[.pointer (some ⟨bp, 0, none⟩), .int .i64 0] ∧ w.heap.size ≤ bp ∧ w'.heap[bp]? = some (.cells #[.int .i64 r, .int .i64 c, .slice (some ⟨g, 0, none⟩) (Gs.cellsN r c).toNat (Gs.cellsN r c).toNat, .int .i64 0] 91 (0, 0)) ∧ Own w.heap.size w' 37 5 (.slice (some ⟨g, 0, none⟩) (Gs.cellsN r c).toNat (Gs.cellsN r c).toNat) (rows Gs.cv (List.replicate (Gs.cellsN r c).toNat Gs.zc)) ∧ Upd no w w' := by
  refine F33.calls ?_
  unfold F33
  have hcb := Gs.cells_bd r c
  have hF : Upd no w w := Fr.refl _ _ _
  refine box_intro (by rfl) (fun b1 w1 e1 h_b1 _ U1 => ?_)
  have ge_b1 : w.heap.size ≤ b1 := by have := hF.size; omega
  replace hF := hF.go0 U1
  clear e1
  refine opv_run (ldA (n := 2) (by kernel_rfl) h_b1 (by first | exact Nat.le_of_ble_eq_true rfl | (simp; done) | omega) (by rfl)) ?_
  refine callF_val (c_addr_Cells) (fun w2 U2 => ?_)
  replace h_b1 := U2.get0 h_b1
  replace hF := hF.go0 U2
  refine opv_F (eqI _ _ _ _ _) (hz) ?_
  refine condf ?_
  refine drawn_S (S := no) (fun w3 U3 => ?_)
  replace h_b1 := U3.get0 h_b1
  replace hF := hF.go0 U3
  refine qop_run (fun w' hw' => by have h_b1 := hw'.get0 h_b1; exact (ldA (n := 2) (by kernel_rfl) h_b1 (by first | exact Nat.le_of_ble_eq_true rfl | (simp; done) | omega) (by rfl))) ?_
  refine ext_intro (fun w4 U4 => ?_)
  replace h_b1 := U4.get0 h_b1
  replace hF := hF.go0 U4
  refine lop_i ?_
  refine makeRows (e := 37) (bytes := 5) (z := Gs.zc) Gs.encC (by kernel_rfl) (by kernel_rfl) (by omega) (by omega) (fun b5 w5 e5 own_b5 _ U5 => ?_)
  have ne_b1_b5 : b1 ≠ b5 := by have := lt_get h_b1; omega
  have ge_b5 : w.heap.size ≤ b5 := by have := hF.size; omega
  replace own_b5 := own_b5.mono (B' := w.heap.size) (by have := hF.size; omega)
  replace h_b1 := U5.get0 h_b1
  replace hF := hF.go0 U5
  clear e5
  refine ⟨U5, ?_⟩
  refine qop_run (fun w' hw' => (build_eq (l := [(0, 2), (2, 1), (3, 1)]) (z := #[.int .i64 0, .int .i64 0, .slice none 0 0, .int .i64 0]) (by kernel_rfl) (by first | (simp [fillL, splice, repL, Value.cells]; done) | (simp [fillL, splice, repL, Value.cells]; rfl)))) ?_
  refine ext_intro (fun w6 U6 => ?_)
  replace own_b5 := own_b5.upd0 U6
  replace h_b1 := U6.get0 h_b1
  replace hF := hF.go0 U6
  refine lop_i ?_
  refine box_intro (by rfl) (fun b7 w7 e7 h_b7 _ U7 => ?_)
  have ne_b1_b7 : b1 ≠ b7 := by have := lt_get h_b1; omega
  have na_own_b5_b7 := own_b5.apart e7
  have ge_b7 : w.heap.size ≤ b7 := by have := hF.size; omega
  replace own_b5 := own_b5.upd0 U7
  replace h_b1 := U7.get0 h_b1
  replace hF := hF.go0 U7
  clear e7
  refine ⟨U7, ?_⟩
  refine ext_intro (fun w8 U8 => ?_)
  replace own_b5 := own_b5.upd0 U8
  replace h_b1 := U8.get0 h_b1
  replace h_b7 := U8.get0 h_b7
  replace hF := hF.go0 U8
  exact ⟨_, rfl, _, _, rfl, by assumption, by assumption, by assumption, hF⟩

end Go.Proofs.YtjdoakbadehicaaGreatDoor
namespace Go.Proofs.YtjdoakbadehicaaGreatDoor
open Go Go.Sh
set_option linter.unusedVariables false
set_option maxRecDepth 100000



end Go.Proofs.YtjdoakbadehicaaGreatDoor
namespace Go.Proofs.YtjdoakbadehicaaGreatDoor
open Go Go.Sh
set_option linter.unusedVariables false
set_option maxRecDepth 100000



end Go.Proofs.YtjdoakbadehicaaGreatDoor
namespace Go.Proofs.YtjdoakbadehicaaGreatDoor
open Go Go.Sh
set_option linter.unusedVariables false
set_option maxRecDepth 100000
/-- greenscreen/field.Before -/
def F29 (R : Ending → World → Prop) (w : World) (a0 a1 : Value) : Prop :=
  callF Tryz.prog 66 #[a0, a1, (.int .i64 (-1))] w R fun t7 w =>
  R (.returned t7) w
theorem F29.eq (R : Ending → World → Prop) (w : World) (a0 a1 : Value) : F29 R w a0 a1 = shF Tryz.prog 29 [0,1,4] [a0, a1] R w := by kernel_rfl
theorem F29.calls {R : Ending → World → Prop} {w : World} {a0 a1 : Value} (h : F29 R w a0 a1) : Calls Tryz.prog 29 #[a0, a1] w R := shF_sound (F29.eq R w a0 a1 ▸ h)

end Go.Proofs.YtjdoakbadehicaaGreatDoor
namespace Go.Proofs.YtjdoakbadehicaaGreatDoor
open Go Go.Sh
set_option linter.unusedVariables false
set_option maxRecDepth 100000


/-- greenscreen/attr.Protected -/
theorem c_attr_Protected {x : Int} {w : World} (hx : 0 ≤ x ∧ x ≤ 255) :
    Calls Tryz.prog 136 #[.int .u8 x] w fun e w' => e = .returned (.bool (decide (x / 32 % 2 = 1))) ∧ Upd no w w' := by
  refine F136.calls ?_
  unfold F136
  have hF : Upd no w w := Fr.refl _ _ _
  refine opv_run (and8_32 _ (by omega)) ?_
  refine opv_run (neI _ _ _ _ _) ?_
  first | exact ⟨retB (by omega), hF⟩ | exact ⟨retT (by omega), hF⟩ | exact ⟨retF (by omega), hF⟩

/-- greenscreen/attr.Modified -/
theorem c_attr_Modified {x : Int} {w : World} (hx : 0 ≤ x ∧ x ≤ 255) :
    Calls Tryz.prog 140 #[.int .u8 x] w fun e w' => e = .returned (.bool (decide (x % 2 = 1))) ∧ Upd no w w' := by
  refine F140.calls ?_
  unfold F140
  have hF : Upd no w w := Fr.refl _ _ _
  refine opv_run (and8_1 _ (by omega)) ?_
  refine opv_run (neI _ _ _ _ _) ?_
  first | exact ⟨retB (by omega), hF⟩ | exact ⟨retT (by omega), hF⟩ | exact ⟨retF (by omega), hF⟩

/-- greenscreen/attr.Modify -/
theorem c_attr_Modify_T {x : Int} {w : World} (hx : 0 ≤ x ∧ x ≤ 255) :
    Calls Tryz.prog 137 #[.int .u8 x, .bool true] w fun e w' => e = .returned (.int .u8 (x - x % 2 + 1)) ∧ Upd no w w' := by
  refine F137.calls ?_
  unfold F137
  have hF : Upd no w w := Fr.refl _ _ _
  refine condt ?_
  refine opv_run (or8_1 _ (by omega)) ?_
  exact ⟨rfl, hF⟩

/-- greenscreen/attr.Modify -/
theorem c_attr_Modify_F {x : Int} {w : World} (hx : 0 ≤ x ∧ x ≤ 255) :
    Calls Tryz.prog 137 #[.int .u8 x, .bool false] w fun e w' => e = .returned (.int .u8 (x - x % 2)) ∧ Upd no w w' := by
  refine F137.calls ?_
  unfold F137
  have hF : Upd no w w := Fr.refl _ _ _
  refine condf ?_
  refine opv_run (andNot8_1 _ (by omega)) ?_
  exact ⟨rfl, hF⟩

/-- greenscreen/field.look -/
theorem c_field_look_F {r c cur : Int} {A : Option Addr} {n cp bp B0 : Nat} {cs : List Gs.Cell} {w : World} (h_bp : w.heap[bp]? = some (.cells #[.int .i64 r, .int .i64 c, .slice A n cp, .int .i64 cur] 91 (0, 0))) (own_p : Own B0 w 37 5 (.slice A n cp) (rows Gs.cv cs)) (hn : n = cs.length) {i : Int} (hN : Gs.cellsN r c = n) (hb : n ≤ 4096) :
    Calls Tryz.prog 66 #[.pointer (some ⟨bp, 0, none⟩), .int .i64 i, .int .i64 1] w fun e w' => e = .returned (.int .i64 (Gs.lookM cs i 1)) ∧ Upd no w w' := by
  refine F66.calls ?_
  unfold F66
  subst hn
  have lt_h_bp := lt_get h_bp
  have lt_own_p := Own.lt own_p
  have hF : Upd no w w := Fr.refl _ _ _
  refine opv_dec (lss _ _ _ _) (fun h1 => ?_) (fun h1 => ?_)
  · refine gdtf ?_
    refine gdtf ?_
    refine gdtf ?_
    refine gdtf ?_
    refine pickt ?_
    refine condt ?_
    first | exact ⟨retI (Gs.look_out (by omega)).symm, hF⟩ | exact ⟨retI (Gs.look_none hno).symm, hF⟩ | exact ⟨retI (Gs.look_at (by omega) hno (by omega) (by assumption)).symm, hF⟩
  · refine gdff ?_
    refine gdff ?_
    refine gdff ?_
    refine callF_val (c_Plane_Len h_bp own_p rfl) (fun w3 U3 => ?_)
    replace own_p := own_p.upd0 U3
    replace h_bp := U3.get0 h_bp
    replace hF := hF.go0 U3
    refine gdff ?_
    refine opv_dec (geq _ _ _ _) (fun h4 => ?_) (fun h4 => ?_)
    · refine pickf ?_
      refine condt ?_
      first | exact ⟨retI (Gs.look_out (by omega)).symm, hF⟩ | exact ⟨retI (Gs.look_none hno).symm, hF⟩ | exact ⟨retI (Gs.look_at (by omega) hno (by omega) (by assumption)).symm, hF⟩
    · refine pickf ?_
      refine condf ?_
      refine join_cut (fun g w' => (Gs.noneB cs i 1 cs.length) ∧ (Upd no w w')) (fun J1 hJ1 => ?_) (fun gJ1 wJ1 hI => ?_)
      · refine callF_val (c_Plane_Len h_bp own_p rfl) (fun w6 U6 => ?_)
        replace own_p := own_p.upd0 U6
        replace h_bp := U6.get0 h_bp
        replace hF := hF.go0 U6
        refine loop_intro (fun g w' => ∃ (k : Nat), (g 19 = .int .i64 (k : Int)) ∧ (k ≤ cs.length) ∧ (Gs.noneB cs i 1 k) ∧ (w'.heap[bp]? = some (.cells #[.int .i64 r, .int .i64 c, .slice A cs.length cp, .int .i64 cur] 91 (0, 0))) ∧ (Own B0 w' 37 5 (.slice A cs.length cp) (rows Gs.cv cs)) ∧ (Upd no w w')) (fun g w' => cs.length - (RowKit.intOf (g 19)).toNat) ?_ (fun g2 wl2 hI => ?_)
        · exact ⟨0, (by first | exact g19 | rfl), Nat.zero_le _, (Gs.noneB_0 _ _ _), h_bp, own_p, hF⟩
        · obtain ⟨k, g19, hk, hno, h_bp, own_p, hF⟩ := hI
          try rw [g19]
          refine opv_dec (lss _ _ _ _) (fun h7 => ?_) (fun h7 => ?_)
          · refine condt ?_
            refine callF_val (c_Plane_Size h_bp own_p rfl) (fun w8 U8 => ?_)
            replace own_p := own_p.upd0 U8
            replace h_bp := U8.get0 h_bp
            replace hF := hF.go0 U8
            first | refine opv_run (mul_i64 _ (by omega)) ?_ | refine opv_run (mulI _ _ _ _) ?_
            refine callF_val (c_addr_Move (i := i) (j := (k : Int) * 1)) (fun w9 U9 => ?_)
            replace own_p := own_p.upd0 U9
            replace h_bp := U9.get0 h_bp
            replace hF := hF.go0 U9
            rw [hN, Gs.moveN_at (by omega)]
            refine callF_val (c_Plane_At h_bp own_p rfl (i := (i + (k : Int) * 1) % (cs.length : Int))) (fun w10 U10 => ?_)
            replace own_p := own_p.upd0 U10
            replace h_bp := U10.get0 h_bp
            replace hF := hF.go0 U10
            refine opv_b (field_one (off := 2) (by kernel_rfl) (by rfl)) (fun h11 => ?_) (fun h11 => ?_)
            · refine condt ?_
              first | exact ⟨retI (Gs.look_out (by omega)).symm, hF⟩ | exact ⟨retI (Gs.look_none hno).symm, hF⟩ | exact ⟨retI (Gs.look_at (by omega) hno (by omega) (by assumption)).symm, hF⟩
            · refine condf ?_
              first | refine opv_run (add_i64 _ (by omega)) ?_ | refine opv_run (addI _ _ _ _) ?_
              exact ⟨⟨k + 1, (by first | exact g19 | rfl), by omega, (Gs.noneB_step hno (by first | assumption | simp_all)), h_bp, own_p, hF⟩, cnt_lt (by first | rfl | exact g19) rfl (by omega)⟩
          · refine condf ?_
            refine hJ1 _ _ ?_
            exact ⟨(by rw [show cs.length = k by omega]; rw [show k = cs.length by omega] at hno ⊢; exact hno), hF⟩
      · obtain ⟨hno, hF⟩ := hI
        first | exact ⟨retI (Gs.look_out (by omega)).symm, hF⟩ | exact ⟨retI (Gs.look_none hno).symm, hF⟩ | exact ⟨retI (Gs.look_at (by omega) hno (by omega) (by assumption)).symm, hF⟩

/-- greenscreen/field.look -/
theorem c_field_look_B {r c cur : Int} {A : Option Addr} {n cp bp B0 : Nat} {cs : List Gs.Cell} {w : World} (h_bp : w.heap[bp]? = some (.cells #[.int .i64 r, .int .i64 c, .slice A n cp, .int .i64 cur] 91 (0, 0))) (own_p : Own B0 w 37 5 (.slice A n cp) (rows Gs.cv cs)) (hn : n = cs.length) {i : Int} (hN : Gs.cellsN r c = n) (hb : n ≤ 4096) :
    Calls Tryz.prog 66 #[.pointer (some ⟨bp, 0, none⟩), .int .i64 i, .int .i64 (-1)] w fun e w' => e = .returned (.int .i64 (Gs.lookM cs i (-1))) ∧ Upd no w w' := by
  refine F66.calls ?_
  unfold F66
  subst hn
  have lt_h_bp := lt_get h_bp
  have lt_own_p := Own.lt own_p
  have hF : Upd no w w := Fr.refl _ _ _
  refine opv_dec (lss _ _ _ _) (fun h1 => ?_) (fun h1 => ?_)
  · refine gdtf ?_
    refine gdtf ?_
    refine gdtf ?_
    refine gdtf ?_
    refine pickt ?_
    refine condt ?_
    first | exact ⟨retI (Gs.look_out (by omega)).symm, hF⟩ | exact ⟨retI (Gs.look_none hno).symm, hF⟩ | exact ⟨retI (Gs.look_at (by omega) hno (by omega) (by assumption)).symm, hF⟩
  · refine gdff ?_
    refine gdff ?_
    refine gdff ?_
    refine callF_val (c_Plane_Len h_bp own_p rfl) (fun w3 U3 => ?_)
    replace own_p := own_p.upd0 U3
    replace h_bp := U3.get0 h_bp
    replace hF := hF.go0 U3
    refine gdff ?_
    refine opv_dec (geq _ _ _ _) (fun h4 => ?_) (fun h4 => ?_)
    · refine pickf ?_
      refine condt ?_
      first | exact ⟨retI (Gs.look_out (by omega)).symm, hF⟩ | exact ⟨retI (Gs.look_none hno).symm, hF⟩ | exact ⟨retI (Gs.look_at (by omega) hno (by omega) (by assumption)).symm, hF⟩
    · refine pickf ?_
      refine condf ?_
      refine join_cut (fun g w' => (Gs.noneB cs i (-1) cs.length) ∧ (Upd no w w')) (fun J1 hJ1 => ?_) (fun gJ1 wJ1 hI => ?_)
      · refine callF_val (c_Plane_Len h_bp own_p rfl) (fun w6 U6 => ?_)
        replace own_p := own_p.upd0 U6
        replace h_bp := U6.get0 h_bp
        replace hF := hF.go0 U6
        refine loop_intro (fun g w' => ∃ (k : Nat), (g 19 = .int .i64 (k : Int)) ∧ (k ≤ cs.length) ∧ (Gs.noneB cs i (-1) k) ∧ (w'.heap[bp]? = some (.cells #[.int .i64 r, .int .i64 c, .slice A cs.length cp, .int .i64 cur] 91 (0, 0))) ∧ (Own B0 w' 37 5 (.slice A cs.length cp) (rows Gs.cv cs)) ∧ (Upd no w w')) (fun g w' => cs.length - (RowKit.intOf (g 19)).toNat) ?_ (fun g2 wl2 hI => ?_)
        · exact ⟨0, (by first | exact g19 | rfl), Nat.zero_le _, (Gs.noneB_0 _ _ _), h_bp, own_p, hF⟩
        · obtain ⟨k, g19, hk, hno, h_bp, own_p, hF⟩ := hI
          try rw [g19]
          refine opv_dec (lss _ _ _ _) (fun h7 => ?_) (fun h7 => ?_)
          · refine condt ?_
            refine callF_val (c_Plane_Size h_bp own_p rfl) (fun w8 U8 => ?_)
            replace own_p := own_p.upd0 U8
            replace h_bp := U8.get0 h_bp
            replace hF := hF.go0 U8
            first | refine opv_run (mul_i64 _ (by omega)) ?_ | refine opv_run (mulI _ _ _ _) ?_
            refine callF_val (c_addr_Move (i := i) (j := (k : Int) * (-1))) (fun w9 U9 => ?_)
            replace own_p := own_p.upd0 U9
            replace h_bp := U9.get0 h_bp
            replace hF := hF.go0 U9
            rw [hN, Gs.moveN_at (by omega)]
            refine callF_val (c_Plane_At h_bp own_p rfl (i := (i + (k : Int) * (-1)) % (cs.length : Int))) (fun w10 U10 => ?_)
            replace own_p := own_p.upd0 U10
            replace h_bp := U10.get0 h_bp
            replace hF := hF.go0 U10
            refine opv_b (field_one (off := 2) (by kernel_rfl) (by rfl)) (fun h11 => ?_) (fun h11 => ?_)
            · refine condt ?_
              first | exact ⟨retI (Gs.look_out (by omega)).symm, hF⟩ | exact ⟨retI (Gs.look_none hno).symm, hF⟩ | exact ⟨retI (Gs.look_at (by omega) hno (by omega) (by assumption)).symm, hF⟩
            · refine condf ?_
              first | refine opv_run (add_i64 _ (by omega)) ?_ | refine opv_run (addI _ _ _ _) ?_
              exact ⟨⟨k + 1, (by first | exact g19 | rfl), by omega, (Gs.noneB_step hno (by first | assumption | simp_all)), h_bp, own_p, hF⟩, cnt_lt (by first | rfl | exact g19) rfl (by omega)⟩
          · refine condf ?_
            refine hJ1 _ _ ?_
            exact ⟨(by rw [show cs.length = k by omega]; rw [show k = cs.length by omega] at hno ⊢; exact hno), hF⟩
      · obtain ⟨hno, hF⟩ := hI
        first | exact ⟨retI (Gs.look_out (by omega)).symm, hF⟩ | exact ⟨retI (Gs.look_none hno).symm, hF⟩ | exact ⟨retI (Gs.look_at (by omega) hno (by omega) (by assumption)).symm, hF⟩

/-- greenscreen/field.Before -/
theorem c_field_Before {r c cur : Int} {A : Option Addr} {n cp bp B0 : Nat} {cs : List Gs.Cell} {w : World} (h_bp : w.heap[bp]? = some (.cells #[.int .i64 r, .int .i64 c, .slice A n cp, .int .i64 cur] 91 (0, 0))) (own_p : Own B0 w 37 5 (.slice A n cp) (rows Gs.cv cs)) (hn : n = cs.length) {i : Int} (hN : Gs.cellsN r c = n) (hb : n ≤ 4096) :
    Calls Tryz.prog 29 #[.pointer (some ⟨bp, 0, none⟩), .int .i64 i] w fun e w' => e = .returned (.int .i64 (Gs.befM cs i)) ∧ Upd no w w' := by
  refine F29.calls ?_
  unfold F29
  have lt_h_bp := lt_get h_bp
  have lt_own_p := Own.lt own_p
  have hF : Upd no w w := Fr.refl _ _ _
  refine callF_val (c_field_look_B h_bp own_p hn hN hb (i := i)) (fun w1 U1 => ?_)
  replace own_p := own_p.upd0 U1
  replace h_bp := U1.get0 h_bp
  replace hF := hF.go0 U1
  exact ⟨rfl, hF⟩

/-- greenscreen/field.After -/
theorem c_field_After {r c cur : Int} {A : Option Addr} {n cp bp B0 : Nat} {cs : List Gs.Cell} {w : World} (h_bp : w.heap[bp]? = some (.cells #[.int .i64 r, .int .i64 c, .slice A n cp, .int .i64 cur] 91 (0, 0))) (own_p : Own B0 w 37 5 (.slice A n cp) (rows Gs.cv cs)) (hn : n = cs.length) {i : Int} (hN : Gs.cellsN r c = n) (hb : n ≤ 4096) :
    Calls Tryz.prog 173 #[.pointer (some ⟨bp, 0, none⟩), .int .i64 i] w fun e w' => e = .returned (.int .i64 (Gs.aftM cs i)) ∧ Upd no w w' := by
  refine F173.calls ?_
  unfold F173
  subst hn
  have lt_h_bp := lt_get h_bp
  have lt_own_p := Own.lt own_p
  have hF : Upd no w w := Fr.refl _ _ _
  refine opv_dec (lss _ _ _ _) (fun h1 => ?_) (fun h1 => ?_)
  · refine gdtf ?_
    refine gdtf ?_
    refine gdtf ?_
    refine gdtf ?_
    refine pickt ?_
    refine condt ?_
    first | exact ⟨retI (Gs.aft_out (by omega)).symm, hF⟩ | exact ⟨retI (Gs.aft_in (by omega)).symm, hF⟩
  · refine gdff ?_
    refine gdff ?_
    refine gdff ?_
    refine callF_val (c_Plane_Len h_bp own_p rfl) (fun w3 U3 => ?_)
    replace own_p := own_p.upd0 U3
    replace h_bp := U3.get0 h_bp
    replace hF := hF.go0 U3
    refine gdff ?_
    refine opv_dec (geq _ _ _ _) (fun h4 => ?_) (fun h4 => ?_)
    · refine pickf ?_
      refine condt ?_
      first | exact ⟨retI (Gs.aft_out (by omega)).symm, hF⟩ | exact ⟨retI (Gs.aft_in (by omega)).symm, hF⟩
    · refine pickf ?_
      refine condf ?_
      refine callF_val (c_Plane_Size h_bp own_p rfl) (fun w6 U6 => ?_)
      replace own_p := own_p.upd0 U6
      replace h_bp := U6.get0 h_bp
      replace hF := hF.go0 U6
      refine callF_val (c_addr_Move (i := i) (j := 1)) (fun w7 U7 => ?_)
      replace own_p := own_p.upd0 U7
      replace h_bp := U7.get0 h_bp
      replace hF := hF.go0 U7
      rw [hN, Gs.moveN_at (by omega)]
      refine callF_val (c_field_look_F h_bp own_p rfl hN hb (i := (i + 1) % (cs.length : Int))) (fun w8 U8 => ?_)
      replace own_p := own_p.upd0 U8
      replace h_bp := U8.get0 h_bp
      replace hF := hF.go0 U8
      first | exact ⟨retI (Gs.aft_out (by omega)).symm, hF⟩ | exact ⟨retI (Gs.aft_in (by omega)).symm, hF⟩

/-- greenscreen/field.Formatted -/
theorem c_field_Formatted {r c cur : Int} {A : Option Addr} {n cp bp B0 : Nat} {cs : List Gs.Cell} {w : World} (h_bp : w.heap[bp]? = some (.cells #[.int .i64 r, .int .i64 c, .slice A n cp, .int .i64 cur] 91 (0, 0))) (own_p : Own B0 w 37 5 (.slice A n cp) (rows Gs.cv cs)) (hn : n = cs.length) (hN : Gs.cellsN r c = n) (hb : n ≤ 4096) :
    Calls Tryz.prog 61 #[.pointer (some ⟨bp, 0, none⟩)] w fun e w' => e = .returned (.bool (decide (0 ≤ Gs.lookM cs 0 1))) ∧ Upd no w w' := by
  refine F61.calls ?_
  unfold F61
  have lt_h_bp := lt_get h_bp
  have lt_own_p := Own.lt own_p
  have hF : Upd no w w := Fr.refl _ _ _
  refine callF_val (c_field_look_F h_bp own_p hn hN hb (i := 0)) (fun w1 U1 => ?_)
  replace own_p := own_p.upd0 U1
  replace h_bp := U1.get0 h_bp
  replace hF := hF.go0 U1
  refine opv_run (geq _ _ _ _) ?_
  first | exact ⟨retB (by omega), hF⟩ | exact ⟨retT (by omega), hF⟩ | exact ⟨retF (by omega), hF⟩

/-- greenscreen/field.at -/
theorem c_field_at {r c cur : Int} {A : Option Addr} {n cp bp B0 : Nat} {cs : List Gs.Cell} {w : World} (h_bp : w.heap[bp]? = some (.cells #[.int .i64 r, .int .i64 c, .slice A n cp, .int .i64 cur] 91 (0, 0))) (own_p : Own B0 w 37 5 (.slice A n cp) (rows Gs.cv cs)) (hn : n = cs.length) {i : Int} (hN : Gs.cellsN r c = n) (hb : n ≤ 4096)(hcw : Gs.Cws cs) (hi : 0 ≤ i ∧ i < cs.length) :
    Calls Tryz.prog 154 #[.pointer (some ⟨bp, 0, none⟩), .int .i64 i] w fun e w' => e = .returned (.agg (Gs.fv (Gs.atM cs i)).toArray) ∧ Upd no w w' := by
  refine F154.calls ?_
  unfold F154
  subst hn
  have hab := Gs.aft_bd hi
  have hgw := Gs.getC_w hcw i
  have lt_h_bp := lt_get h_bp
  have lt_own_p := Own.lt own_p
  have hF : Upd no w w := Fr.refl _ _ _
  refine alloc_intro (cs := (Gs.fv Gs.zf).toArray) (by kernel_rfl) (fun b1 w1 e1 h_b1 _ U1 => ?_)
  have ne_bp_b1 : bp ≠ b1 := by have := lt_get h_bp; omega
  have na_own_p_b1 := own_p.apart e1
  have ge_b1 : w.heap.size ≤ b1 := by have := hF.size; omega
  replace own_p := own_p.upd0 U1
  replace h_bp := U1.get0 h_bp
  replace hF := hF.go0 U1
  clear e1
  refine callF_val (c_field_After h_bp own_p rfl hN hb (i := i)) (fun w2 U2 => ?_)
  replace own_p := own_p.upd0 U2
  replace h_bp := U2.get0 h_bp
  replace h_b1 := U2.get0 h_b1
  replace hF := hF.go0 U2
  first | refine opv_run (sub_i64 _ (by omega)) ?_ | refine opv_run (subI _ _ _ _) ?_
  first | refine opv_run (sub_i64 _ (by omega)) ?_ | refine opv_run (subI _ _ _ _) ?_
  refine join_cut (fun g w' => (g 5 = .int .i64 (Gs.lenM cs i)) ∧ (w'.heap[bp]? = some (.cells #[.int .i64 r, .int .i64 c, .slice A cs.length cp, .int .i64 cur] 91 (0, 0))) ∧ (Own B0 w' 37 5 (.slice A cs.length cp) (rows Gs.cv cs)) ∧ (w'.heap[b1]? = some (.cells (Gs.fv Gs.zf).toArray 173 (0, 0))) ∧ (Upd no w w')) (fun J1 hJ1 => ?_) (fun gJ1 wJ1 hI => ?_)
  · refine opv_dec (lss _ _ _ _) (fun h3 => ?_) (fun h3 => ?_)
    · refine condt ?_
      refine callF_val (c_Plane_Len h_bp own_p rfl) (fun w4 U4 => ?_)
      replace own_p := own_p.upd0 U4
      replace h_bp := U4.get0 h_bp
      replace h_b1 := U4.get0 h_b1
      replace hF := hF.go0 U4
      first | refine opv_run (add_i64 _ (by omega)) ?_ | refine opv_run (addI _ _ _ _) ?_
      refine hJ1 _ _ ?_
      exact ⟨(by first | exact congrArg (Value.int .i64) (Gs.len_lt (by assumption)) | exact congrArg (Value.int .i64) (Gs.len_ge (by assumption))), h_bp, own_p, h_b1, hF⟩
    · refine condf ?_
      refine hJ1 _ _ ?_
      exact ⟨(by first | exact congrArg (Value.int .i64) (Gs.len_lt (by assumption)) | exact congrArg (Value.int .i64) (Gs.len_ge (by assumption))), h_bp, own_p, h_b1, hF⟩
  · obtain ⟨g5, h_bp, own_p, h_b1, hF⟩ := hI
    try rw [g5]
    refine callF_val (c_Plane_At h_bp own_p rfl (i := i)) (fun w5 U5 => ?_)
    replace own_p := own_p.upd0 U5
    replace h_bp := U5.get0 h_bp
    replace h_b1 := U5.get0 h_b1
    replace hF := hF.go0 U5
    refine opv_run (field_one (off := 0) (by kernel_rfl) (by rfl)) ?_
    refine opv_run (and8_63 _ (by omega)) ?_
    refine opv_run (build_eq (l := [(0, 1), (1, 1), (2, 1)]) (z := #[.int .i64 0, .int .i64 0, .int .u8 0]) (by kernel_rfl) (by first | (simp [fillL, splice, repL, Value.cells, Gs.cv, Gs.fv]; done) | (simp [fillL, splice, repL, Value.cells, Gs.cv, Gs.fv]; rfl))) ?_
    refine store_intro (n := 3) (by kernel_rfl) (by rfl) (by first | rfl | (simp [Value.cells, Value.oneCell', Gs.cv, Gs.fv]; done)) h_b1 (by first | exact Nat.le_of_ble_eq_true rfl | (simp; done) | omega) (by first | (simp; rfl) | rfl) (fun w6 N6 _ U6 => ?_)
    replace own_p := own_p.upd1 U6 na_own_p_b1
    replace h_bp := U6.get1 h_bp ne_bp_b1
    replace h_b1 := N6
    replace hF := hF.go1 U6 ge_b1
    refine ldv_run (ldA (n := 3) (by kernel_rfl) h_b1 (by first | exact Nat.le_of_ble_eq_true rfl | simp | omega) (by rfl)) ?_
    exact ⟨rfl, hF⟩

/-- greenscreen/field.Of -/
theorem c_field_Of {r c cur : Int} {A : Option Addr} {n cp bp B0 : Nat} {cs : List Gs.Cell} {w : World} (h_bp : w.heap[bp]? = some (.cells #[.int .i64 r, .int .i64 c, .slice A n cp, .int .i64 cur] 91 (0, 0))) (own_p : Own B0 w 37 5 (.slice A n cp) (rows Gs.cv cs)) (hn : n = cs.length) {i : Int} (hN : Gs.cellsN r c = n) (hb : n ≤ 4096)(hcw : Gs.Cws cs)  :
    Calls Tryz.prog 116 #[.pointer (some ⟨bp, 0, none⟩), .int .i64 i] w fun e w' => e = .returned (.tuple #[.agg (Gs.fv (Gs.ofM cs i)).toArray, .bool (Gs.ofB cs i)]) ∧ Upd no w w' := by
  refine F116.calls ?_
  unfold F116
  subst hn
  have lt_h_bp := lt_get h_bp
  have lt_own_p := Own.lt own_p
  have hF : Upd no w w := Fr.refl _ _ _
  refine alloc_intro (cs := (Gs.fv Gs.zf).toArray) (by kernel_rfl) (fun b1 w1 e1 h_b1 _ U1 => ?_)
  have ne_bp_b1 : bp ≠ b1 := by have := lt_get h_bp; omega
  have na_own_p_b1 := own_p.apart e1
  have ge_b1 : w.heap.size ≤ b1 := by have := hF.size; omega
  replace own_p := own_p.upd0 U1
  replace h_bp := U1.get0 h_bp
  replace hF := hF.go0 U1
  clear e1
  refine callF_val (c_field_Before h_bp own_p rfl hN hb (i := i)) (fun w2 U2 => ?_)
  replace own_p := own_p.upd0 U2
  replace h_bp := U2.get0 h_bp
  replace h_b1 := U2.get0 h_b1
  replace hF := hF.go0 U2
  refine opv_dec (lss _ _ _ _) (fun h3 => ?_) (fun h3 => ?_)
  · refine condt ?_
    refine opv_run (build_eq (l := [(0, 1), (1, 1), (2, 1)]) (z := #[.int .i64 0, .int .i64 0, .int .u8 0]) (cs := (Gs.fv Gs.zf)) (by kernel_rfl) (by rfl)) ?_
    refine store_intro (n := 3) (cs' := (Gs.fv Gs.zf).toArray) (by kernel_rfl) (by rfl) (by first | rfl | (simp [Value.cells, Value.oneCell', Gs.cv, Gs.fv]; done)) h_b1 (by first | exact Nat.le_of_ble_eq_true rfl | (simp; done) | omega) (by rfl) (fun w4 N4 _ U4 => ?_)
    replace own_p := own_p.upd1 U4 na_own_p_b1
    replace h_bp := U4.get1 h_bp ne_bp_b1
    replace h_b1 := N4
    replace hF := hF.go1 U4 ge_b1
    refine ldv_run (ldA (n := 3) (by kernel_rfl) h_b1 (by first | exact Nat.le_of_ble_eq_true rfl | simp | omega) (by rfl)) ?_
    first | exact ⟨Gs.of_yes (by assumption), hF⟩ | exact ⟨Gs.of_not (by assumption), hF⟩
  · refine condf ?_
    refine callF_val (c_field_at h_bp own_p rfl hN hb hcw (i := Gs.befM cs i) (Gs.bef_rng (by assumption))) (fun w6 U6 => ?_)
    replace own_p := own_p.upd0 U6
    replace h_bp := U6.get0 h_bp
    replace h_b1 := U6.get0 h_b1
    replace hF := hF.go0 U6
    refine store_intro (n := 3) (cs' := (Gs.fv (Gs.atM cs (Gs.befM cs i))).toArray) (by kernel_rfl) (by rfl) (by first | rfl | (simp [Value.cells, Value.oneCell', Gs.cv, Gs.fv]; done)) h_b1 (by first | exact Nat.le_of_ble_eq_true rfl | (simp; done) | omega) (by rfl) (fun w7 N7 _ U7 => ?_)
    replace own_p := own_p.upd1 U7 na_own_p_b1
    replace h_bp := U7.get1 h_bp ne_bp_b1
    replace h_b1 := N7
    replace hF := hF.go1 U7 ge_b1
    refine ldv_run (ldA (n := 3) (by kernel_rfl) h_b1 (by first | exact Nat.le_of_ble_eq_true rfl | simp | omega) (by rfl)) ?_
    first | exact ⟨Gs.of_yes (by assumption), hF⟩ | exact ⟨Gs.of_not (by assumption), hF⟩

/-- greenscreen/field.Open -/
theorem c_field_Open {r c cur : Int} {A : Option Addr} {n cp bp B0 : Nat} {cs : List Gs.Cell} {w : World} (h_bp : w.heap[bp]? = some (.cells #[.int .i64 r, .int .i64 c, .slice A n cp, .int .i64 cur] 91 (0, 0))) (own_p : Own B0 w 37 5 (.slice A n cp) (rows Gs.cv cs)) (hn : n = cs.length) {i : Int} (hN : Gs.cellsN r c = n) (hb : n ≤ 4096)(hcw : Gs.Cws cs)  :
    Calls Tryz.prog 117 #[.pointer (some ⟨bp, 0, none⟩), .int .i64 i] w fun e w' => e = .returned (.bool (Gs.openM cs i)) ∧ Upd no w w' := by
  refine F117.calls ?_
  unfold F117
  subst hn
  have lt_h_bp := lt_get h_bp
  have lt_own_p := Own.lt own_p
  have hF : Upd no w w := Fr.refl _ _ _
  refine callF_val (c_field_Of h_bp own_p rfl hN hb hcw (i := i)) (fun w1 U1 => ?_)
  replace own_p := own_p.upd0 U1
  replace h_bp := U1.get0 h_bp
  replace hF := hF.go0 U1
  refine opv_run (ext_t (by rfl)) ?_
  refine opv_run (ext_t (by rfl)) ?_
  refine alloc_intro (cs := (Gs.fv Gs.zf).toArray) (by kernel_rfl) (fun b2 w2 e2 h_b2 _ U2 => ?_)
  have ne_bp_b2 : bp ≠ b2 := by have := lt_get h_bp; omega
  have na_own_p_b2 := own_p.apart e2
  have ge_b2 : w.heap.size ≤ b2 := by have := hF.size; omega
  replace own_p := own_p.upd0 U2
  replace h_bp := U2.get0 h_bp
  replace hF := hF.go0 U2
  clear e2
  refine store_intro (n := 3) (cs' := (Gs.fv (Gs.ofM cs i)).toArray) (by kernel_rfl) (by rfl) (by first | rfl | (simp [Value.cells, Value.oneCell', Gs.cv, Gs.fv]; done)) h_b2 (by first | exact Nat.le_of_ble_eq_true rfl | (simp; done) | omega) (by rfl) (fun w3 N3 _ U3 => ?_)
  replace own_p := own_p.upd1 U3 na_own_p_b2
  replace h_bp := U3.get1 h_bp ne_bp_b2
  replace h_b2 := N3
  replace hF := hF.go1 U3 ge_b2
  refine opv_run (notB _) ?_
  refine cond_intro (fun h4 => ?_) (fun h4 => ?_)
  · try simp only [decide_eq_true_eq, decide_eq_false_iff_not] at h4
    refine opv_dec (geq _ _ _ _) (fun h5 => ?_) (fun h5 => ?_)
    · refine gdtt ?_
      refine gdtt ?_
      refine gdtt ?_
      refine callF_val (c_Plane_Len h_bp own_p rfl) (fun w6 U6 => ?_)
      replace own_p := own_p.upd0 U6
      replace h_bp := U6.get0 h_bp
      replace h_b2 := U6.get0 h_b2
      replace hF := hF.go0 U6
      refine gdtt ?_
      refine opv_run (lss _ _ _ _) ?_
      refine pickt ?_
      have hob : Gs.ofB cs i = false ∨ Gs.ofB cs i = true := by cases Gs.ofB cs i <;> simp
      first | (rw [Gs.open_no (by simp_all)]; first | exact ⟨retB (by omega), hF⟩ | exact ⟨retT (by omega), hF⟩ | exact ⟨retF (by omega), hF⟩) | (rw [Gs.open_yes (by simp_all) (by assumption)]; exact ⟨rfl, hF⟩) | (rw [Gs.open_self (by simp_all) (by assumption)]; exact ⟨rfl, hF⟩)
    · refine gdft ?_
      refine gdft ?_
      refine gdft ?_
      refine gdft ?_
      refine pickf ?_
      have hob : Gs.ofB cs i = false ∨ Gs.ofB cs i = true := by cases Gs.ofB cs i <;> simp
      first | (rw [Gs.open_no (by simp_all)]; first | exact ⟨retB (by omega), hF⟩ | exact ⟨retT (by omega), hF⟩ | exact ⟨retF (by omega), hF⟩) | (rw [Gs.open_yes (by simp_all) (by assumption)]; exact ⟨rfl, hF⟩) | (rw [Gs.open_self (by simp_all) (by assumption)]; exact ⟨rfl, hF⟩)
  · try simp only [decide_eq_true_eq, decide_eq_false_iff_not] at h4
    refine opv_run (fieldAt_eq (off := 0) (by kernel_rfl)) ?_
    refine opv_run (ldC (by kernel_rfl) h_b2 (by rfl)) ?_
    refine opv_dec (neI _ _ _ _ _) (fun h9 => ?_) (fun h9 => ?_)
    · refine gdtt ?_
      refine opv_run (fieldAt_eq (off := 2) (by kernel_rfl)) ?_
      refine gdtt ?_
      refine opv_run (ldC (by kernel_rfl) h_b2 (by rfl)) ?_
      refine gdtt ?_
      refine callF_val (c_attr_Protected (Gs.of_a hcw i)) (fun w10 U10 => ?_)
      replace own_p := own_p.upd0 U10
      replace h_bp := U10.get0 h_bp
      replace h_b2 := U10.get0 h_b2
      replace hF := hF.go0 U10
      refine gdtt ?_
      refine opv_run (notB _) ?_
      refine pickt ?_
      have hob : Gs.ofB cs i = false ∨ Gs.ofB cs i = true := by cases Gs.ofB cs i <;> simp
      first | (rw [Gs.open_no (by simp_all)]; first | exact ⟨retB (by omega), hF⟩ | exact ⟨retT (by omega), hF⟩ | exact ⟨retF (by omega), hF⟩) | (rw [Gs.open_yes (by simp_all) (by assumption)]; exact ⟨rfl, hF⟩) | (rw [Gs.open_self (by simp_all) (by assumption)]; exact ⟨rfl, hF⟩)
    · refine gdft ?_
      refine gdft ?_
      refine gdft ?_
      refine gdft ?_
      refine pickf ?_
      have hob : Gs.ofB cs i = false ∨ Gs.ofB cs i = true := by cases Gs.ofB cs i <;> simp
      first | (rw [Gs.open_no (by simp_all)]; first | exact ⟨retB (by omega), hF⟩ | exact ⟨retT (by omega), hF⟩ | exact ⟨retF (by omega), hF⟩) | (rw [Gs.open_yes (by simp_all) (by assumption)]; exact ⟨rfl, hF⟩) | (rw [Gs.open_self (by simp_all) (by assumption)]; exact ⟨rfl, hF⟩)

/-- greenscreen/field.modify -/
theorem c_field_modify_T {r c cur : Int} {A : Option Addr} {n cp bp B0 : Nat} {cs : List Gs.Cell} {w : World} (h_bp : w.heap[bp]? = some (.cells #[.int .i64 r, .int .i64 c, .slice A n cp, .int .i64 cur] 91 (0, 0))) (own_p : Own B0 w 37 5 (.slice A n cp) (rows Gs.cv cs)) (hn : n = cs.length) {i : Int} (hN : Gs.cellsN r c = n) (hb : n ≤ 4096)(hcw : Gs.Cws cs) (hi : 0 ≤ i ∧ i < cs.length) :
    Calls Tryz.prog 123 #[.pointer (some ⟨bp, 0, none⟩), .int .i64 i, .bool true] w fun e w' => ∃ v, e = .returned v ∧ Own B0 w' 37 5 (.slice A n cp) (rows Gs.cv (Gs.modC true cs i)) ∧ Upd (ownS (.slice A n cp)) w w' := by
  refine F123.calls ?_
  unfold F123
  have hgw := Gs.getC_w hcw i
  have lt_h_bp := lt_get h_bp
  have lt_own_p := Own.lt own_p
  have hF : Upd (ownS (.slice A n cp)) w w := Fr.refl _ _ _
  refine callF_val (c_Plane_At h_bp own_p hn (i := i)) (fun w1 U1 => ?_)
  replace own_p := own_p.upd0 U1
  replace h_bp := U1.get0 h_bp
  replace hF := hF.go0 U1
  refine alloc_intro (cs := (Gs.cv Gs.zc).toArray) (by kernel_rfl) (fun b2 w2 e2 h_b2 _ U2 => ?_)
  have ne_bp_b2 : bp ≠ b2 := by have := lt_get h_bp; omega
  have na_own_p_b2 := own_p.apart e2
  have ge_b2 : w.heap.size ≤ b2 := by have := hF.size; omega
  replace own_p := own_p.upd0 U2
  replace h_bp := U2.get0 h_bp
  replace hF := hF.go0 U2
  clear e2
  refine store_intro (n := 5) (cs' := (Gs.cv (Gs.getC cs i)).toArray) (by kernel_rfl) (by rfl) (by first | rfl | (simp [Value.cells, Value.oneCell', Gs.cv, Gs.fv]; done)) h_b2 (by first | exact Nat.le_of_ble_eq_true rfl | (simp; done) | omega) (by rfl) (fun w3 N3 _ U3 => ?_)
  replace own_p := own_p.upd1 U3 na_own_p_b2
  replace h_bp := U3.get1 h_bp ne_bp_b2
  replace h_b2 := N3
  replace hF := hF.go1 U3 ge_b2
  refine opv_run (fieldAt_eq (off := 0) (by kernel_rfl)) ?_
  refine opv_run (ldC (by kernel_rfl) h_b2 (by rfl)) ?_
  refine callF_val (c_attr_Modify_T hgw) (fun w4 U4 => ?_)
  replace own_p := own_p.upd0 U4
  replace h_bp := U4.get0 h_bp
  replace h_b2 := U4.get0 h_b2
  replace hF := hF.go0 U4
  refine opv_run (fieldAt_eq (off := 0) (by kernel_rfl)) ?_
  refine store1_intro (by kernel_rfl) rfl rfl h_b2 (by first | exact Nat.le_of_ble_eq_true rfl | (simp; done) | omega | (simp [vals_length, *]; done) | (simp [vals_length, *]; omega)) (by first | (simp [vals_set]; rfl) | rfl) (fun w5 N5 _ U5 => ?_)
  replace own_p := own_p.upd1 U5 na_own_p_b2
  replace h_bp := U5.get1 h_bp ne_bp_b2
  replace h_b2 := N5
  replace hF := hF.go1 U5 ge_b2
  refine opv_run (ldA (n := 5) (by kernel_rfl) h_b2 (by first | exact Nat.le_of_ble_eq_true rfl | (simp; done) | omega) (by rfl)) ?_
  refine callF_ex (c_Plane_Set h_bp own_p hn (i := i) (x := Gs.modX true (Gs.getC cs i))) (fun v6 w6 D6 => ?_)
  obtain ⟨rfl, N6, U6⟩ := D6
  have own_p_o := own_p
  replace h_bp := U6.get h_bp (fun h => by first | (have := Own.ge own_p_o h; omega) | exact Own.ne_blk own_p_o h_bp (by decide) _ h rfl | exact Own.not_loop own_p_o h_bp (by assumption) _ h rfl | exact Own.not_def own_p_o h_bp _ h rfl | simp_all)
  replace own_p := N6
  replace h_b2 := U6.get h_b2 (fun h => na_own_p_b2 _ h rfl)
  replace hF := hF.go U6 (fun i h hs => by first | exact hs | exact .inl hs | exact .inr hs | (have := (Own.ge own_p_o hs).1; omega))
  clear own_p_o
  exact ⟨_, rfl, own_p, hF⟩

/-- greenscreen/field.modify -/
theorem c_field_modify_F {r c cur : Int} {A : Option Addr} {n cp bp B0 : Nat} {cs : List Gs.Cell} {w : World} (h_bp : w.heap[bp]? = some (.cells #[.int .i64 r, .int .i64 c, .slice A n cp, .int .i64 cur] 91 (0, 0))) (own_p : Own B0 w 37 5 (.slice A n cp) (rows Gs.cv cs)) (hn : n = cs.length) {i : Int} (hN : Gs.cellsN r c = n) (hb : n ≤ 4096)(hcw : Gs.Cws cs) (hi : 0 ≤ i ∧ i < cs.length) :
    Calls Tryz.prog 123 #[.pointer (some ⟨bp, 0, none⟩), .int .i64 i, .bool false] w fun e w' => ∃ v, e = .returned v ∧ Own B0 w' 37 5 (.slice A n cp) (rows Gs.cv (Gs.modC false cs i)) ∧ Upd (ownS (.slice A n cp)) w w' := by
  refine F123.calls ?_
  unfold F123
  have hgw := Gs.getC_w hcw i
  have lt_h_bp := lt_get h_bp
  have lt_own_p := Own.lt own_p
  have hF : Upd (ownS (.slice A n cp)) w w := Fr.refl _ _ _
  refine callF_val (c_Plane_At h_bp own_p hn (i := i)) (fun w1 U1 => ?_)
  replace own_p := own_p.upd0 U1
  replace h_bp := U1.get0 h_bp
  replace hF := hF.go0 U1
  refine alloc_intro (cs := (Gs.cv Gs.zc).toArray) (by kernel_rfl) (fun b2 w2 e2 h_b2 _ U2 => ?_)
  have ne_bp_b2 : bp ≠ b2 := by have := lt_get h_bp; omega
  have na_own_p_b2 := own_p.apart e2
  have ge_b2 : w.heap.size ≤ b2 := by have := hF.size; omega
  replace own_p := own_p.upd0 U2
  replace h_bp := U2.get0 h_bp
  replace hF := hF.go0 U2
  clear e2
  refine store_intro (n := 5) (cs' := (Gs.cv (Gs.getC cs i)).toArray) (by kernel_rfl) (by rfl) (by first | rfl | (simp [Value.cells, Value.oneCell', Gs.cv, Gs.fv]; done)) h_b2 (by first | exact Nat.le_of_ble_eq_true rfl | (simp; done) | omega) (by rfl) (fun w3 N3 _ U3 => ?_)
  replace own_p := own_p.upd1 U3 na_own_p_b2
  replace h_bp := U3.get1 h_bp ne_bp_b2
  replace h_b2 := N3
  replace hF := hF.go1 U3 ge_b2
  refine opv_run (fieldAt_eq (off := 0) (by kernel_rfl)) ?_
  refine opv_run (ldC (by kernel_rfl) h_b2 (by rfl)) ?_
  refine callF_val (c_attr_Modify_F hgw) (fun w4 U4 => ?_)
  replace own_p := own_p.upd0 U4
  replace h_bp := U4.get0 h_bp
  replace h_b2 := U4.get0 h_b2
  replace hF := hF.go0 U4
  refine opv_run (fieldAt_eq (off := 0) (by kernel_rfl)) ?_
  refine store1_intro (by kernel_rfl) rfl rfl h_b2 (by first | exact Nat.le_of_ble_eq_true rfl | (simp; done) | omega | (simp [vals_length, *]; done) | (simp [vals_length, *]; omega)) (by first | (simp [vals_set]; rfl) | rfl) (fun w5 N5 _ U5 => ?_)
  replace own_p := own_p.upd1 U5 na_own_p_b2
  replace h_bp := U5.get1 h_bp ne_bp_b2
  replace h_b2 := N5
  replace hF := hF.go1 U5 ge_b2
  refine opv_run (ldA (n := 5) (by kernel_rfl) h_b2 (by first | exact Nat.le_of_ble_eq_true rfl | (simp; done) | omega) (by rfl)) ?_
  refine callF_ex (c_Plane_Set h_bp own_p hn (i := i) (x := Gs.modX false (Gs.getC cs i))) (fun v6 w6 D6 => ?_)
  obtain ⟨rfl, N6, U6⟩ := D6
  have own_p_o := own_p
  replace h_bp := U6.get h_bp (fun h => by first | (have := Own.ge own_p_o h; omega) | exact Own.ne_blk own_p_o h_bp (by decide) _ h rfl | exact Own.not_loop own_p_o h_bp (by assumption) _ h rfl | exact Own.not_def own_p_o h_bp _ h rfl | simp_all)
  replace own_p := N6
  replace h_b2 := U6.get h_b2 (fun h => na_own_p_b2 _ h rfl)
  replace hF := hF.go U6 (fun i h hs => by first | exact hs | exact .inl hs | exact .inr hs | (have := (Own.ge own_p_o hs).1; omega))
  clear own_p_o
  exact ⟨_, rfl, own_p, hF⟩

/-- greenscreen/field.Mark -/
theorem c_field_Mark {r c cur : Int} {A : Option Addr} {n cp bp B0 : Nat} {cs : List Gs.Cell} {w : World} (h_bp : w.heap[bp]? = some (.cells #[.int .i64 r, .int .i64 c, .slice A n cp, .int .i64 cur] 91 (0, 0))) (own_p : Own B0 w 37 5 (.slice A n cp) (rows Gs.cv cs)) (hn : n = cs.length) {i : Int} (hN : Gs.cellsN r c = n) (hb : n ≤ 4096)(hcw : Gs.Cws cs)  :
    Calls Tryz.prog 73 #[.pointer (some ⟨bp, 0, none⟩), .int .i64 i] w fun e w' => ∃ v, e = .returned v ∧ v = .bool (decide (¬ Gs.befM cs i < 0)) ∧ Own B0 w' 37 5 (.slice A n cp) (rows Gs.cv (Gs.markC cs i)) ∧ Upd (ownS (.slice A n cp)) w w' := by
  refine F73.calls ?_
  unfold F73
  have lt_h_bp := lt_get h_bp
  have lt_own_p := Own.lt own_p
  have hF : Upd (ownS (.slice A n cp)) w w := Fr.refl _ _ _
  refine callF_val (c_field_Before h_bp own_p hn hN hb (i := i)) (fun w1 U1 => ?_)
  replace own_p := own_p.upd0 U1
  replace h_bp := U1.get0 h_bp
  replace hF := hF.go0 U1
  refine opv_dec (lss _ _ _ _) (fun h2 => ?_) (fun h2 => ?_)
  · refine condt ?_
    first | exact ⟨_, rfl, by rw [decide_eq_true (by assumption)], by rw [Gs.mark_yes (by assumption)]; exact own_p, hF⟩ | exact ⟨_, rfl, by rw [decide_eq_false (by omega)], by rw [Gs.mark_no (by assumption)]; exact own_p, hF⟩
  · refine condf ?_
    refine callF_ex (c_field_modify_T h_bp own_p hn hN hb hcw (i := Gs.befM cs i) (Gs.bef_rng (by assumption))) (fun v4 w4 D4 => ?_)
    obtain ⟨N4, U4⟩ := D4
    have own_p_o := own_p
    replace h_bp := U4.get h_bp (fun h => by first | (have := Own.ge own_p_o h; omega) | exact Own.ne_blk own_p_o h_bp (by decide) _ h rfl | exact Own.not_loop own_p_o h_bp (by assumption) _ h rfl | exact Own.not_def own_p_o h_bp _ h rfl | simp_all)
    replace own_p := N4
    replace hF := hF.go U4 (fun i h hs => by first | exact hs | exact .inl hs | exact .inr hs | (have := (Own.ge own_p_o hs).1; omega))
    clear own_p_o
    first | exact ⟨_, rfl, by rw [decide_eq_true (by assumption)], by rw [Gs.mark_yes (by assumption)]; exact own_p, hF⟩ | exact ⟨_, rfl, by rw [decide_eq_false (by omega)], by rw [Gs.mark_no (by assumption)]; exact own_p, hF⟩

end Go.Proofs.YtjdoakbadehicaaGreatDoor
namespace Go.Proofs.YtjdoakbadehicaaGreatDoor
open Go Go.Sh
set_option linter.unusedVariables false
set_option maxRecDepth 100000


/-- greenscreen/field.All -/
theorem c_field_All {r c cur : Int} {A : Option Addr} {n cp bp B0 : Nat} {cs : List Gs.Cell} {w : World} (h_bp : w.heap[bp]? = some (.cells #[.int .i64 r, .int .i64 c, .slice A n cp, .int .i64 cur] 91 (0, 0))) (own_p : Own B0 w 37 5 (.slice A n cp) (rows Gs.cv cs)) (hn : n = cs.length)  :
    Calls Tryz.prog 135 #[.pointer (some ⟨bp, 0, none⟩)] w fun e w' => ∃ v, e = .returned v ∧ ∃ b1, v = .func (.func 158) #[] #[.pointer (some ⟨b1, 0, none⟩)] ∧ w.heap.size ≤ b1 ∧ w'.heap[b1]? = some (.cells #[.pointer (some ⟨bp, 0, none⟩)] 33 (0, 0)) ∧ Upd no w w' := by
  refine F135.calls ?_
  unfold F135
  have lt_h_bp := lt_get h_bp
  have lt_own_p := Own.lt own_p
  have hF : Upd no w w := Fr.refl _ _ _
  refine box_intro (by rfl) (fun b1 w1 e1 h_b1 _ U1 => ?_)
  have ne_bp_b1 : bp ≠ b1 := by have := lt_get h_bp; omega
  have na_own_p_b1 := own_p.apart e1
  have ge_b1 : w.heap.size ≤ b1 := by have := hF.size; omega
  replace own_p := own_p.upd0 U1
  replace h_bp := U1.get0 h_bp
  replace hF := hF.go0 U1
  clear e1
  refine opv_run (mkF _ _ _) ?_
  exact ⟨_, rfl, b1, rfl, ge_b1, h_b1, hF⟩

/-- greenscreen/field.Places -/
theorem c_field_Places {r c cur : Int} {A : Option Addr} {n cp bp B0 : Nat} {cs : List Gs.Cell} {w : World} (h_bp : w.heap[bp]? = some (.cells #[.int .i64 r, .int .i64 c, .slice A n cp, .int .i64 cur] 91 (0, 0))) (own_p : Own B0 w 37 5 (.slice A n cp) (rows Gs.cv cs)) (hn : n = cs.length) {f : Gs.Fld} :
    Calls Tryz.prog 141 #[.pointer (some ⟨bp, 0, none⟩), .agg (Gs.fv f).toArray] w fun e w' => ∃ v, e = .returned v ∧ ∃ b1 b2, v = .func (.func 161) #[] #[.pointer (some ⟨b2, 0, none⟩), .pointer (some ⟨b1, 0, none⟩)] ∧ w.heap.size ≤ b1 ∧ w.heap.size ≤ b2 ∧ w'.heap[b1]? = some (.cells #[.pointer (some ⟨bp, 0, none⟩)] 33 (0, 0)) ∧ w'.heap[b2]? = some (.cells (Gs.fv f).toArray 173 (0, 0)) ∧ Upd no w w' := by
  refine F141.calls ?_
  unfold F141
  have lt_h_bp := lt_get h_bp
  have lt_own_p := Own.lt own_p
  have hF : Upd no w w := Fr.refl _ _ _
  refine box_intro (by rfl) (fun b1 w1 e1 h_b1 _ U1 => ?_)
  have ne_bp_b1 : bp ≠ b1 := by have := lt_get h_bp; omega
  have na_own_p_b1 := own_p.apart e1
  have ge_b1 : w.heap.size ≤ b1 := by have := hF.size; omega
  replace own_p := own_p.upd0 U1
  replace h_bp := U1.get0 h_bp
  replace hF := hF.go0 U1
  clear e1
  refine box_intro (cs := (Gs.fv f).toArray) (by rfl) (fun b2 w2 e2 h_b2 _ U2 => ?_)
  have ne_bp_b2 : bp ≠ b2 := by have := lt_get h_bp; omega
  have na_own_p_b2 := own_p.apart e2
  have ne_b1_b2 : b1 ≠ b2 := by have := lt_get h_b1; omega
  have ge_b2 : w.heap.size ≤ b2 := by have := hF.size; omega
  replace own_p := own_p.upd0 U2
  replace h_bp := U2.get0 h_bp
  replace h_b1 := U2.get0 h_b1
  replace hF := hF.go0 U2
  clear e2
  refine opv_run (mkF _ _ _) ?_
  exact ⟨_, rfl, b1, b2, rfl, ge_b1, ge_b2, h_b1, h_b2, hF⟩

/-- greenscreen/field.All$1 -/
theorem c_field_All_1 {r c cur : Int} {A : Option Addr} {n cp bp B0 b1 : Nat} {csF : Nat → List Gs.Cell} {y : Value} {J : Nat → World → Prop} {X : World → Prop} {w : World} (hcap : ∀ k w', J k w' → w'.heap[b1]? = some (.cells #[.pointer (some ⟨bp, 0, none⟩)] 33 (0, 0)) ∧ w'.heap[bp]? = some (.cells #[.int .i64 r, .int .i64 c, .slice A n cp, .int .i64 cur] 91 (0, 0)) ∧ Own B0 w' 37 5 (.slice A n cp) (rows Gs.cv (csF k))) (hst : ∀ k w' w'', J k w' → Upd no w' w'' → J k w'') (hsx : ∀ w' w'', X w' → Upd no w' w'' → X w'') (hlen : ∀ k, n = (csF k).length) (hw : ∀ k, Gs.Cws (csF k)) (hst0 : ∀ k i, Gs.stB (csF k) i = Gs.stB (csF 0) i) (hN : Gs.cellsN r c = n) (hb : n ≤ 4096) (hy : ∀ k w' (s : Nat), (Gs.startsN (csF 0))[k]? = some s → J k w' → CallsYd Tryz.prog y #[.agg (Gs.fv (Gs.atM (csF k) s)).toArray] w' (J (k + 1)) X) (h0 : J 0 w) :
    Calls Tryz.prog 158 #[y, .pointer (some ⟨b1, 0, none⟩)] w fun e w' => (∃ v, e = .returned v) ∧ (J (Gs.startsN (csF 0)).length w' ∨ X w') := by
  refine F158.calls ?_
  unfold F158
  obtain ⟨h_b1, h_bp, own_p⟩ := hcap _ _ h0
  have hl0 := hlen 0
  have lt_h_b1 := lt_get h_b1
  have lt_h_bp := lt_get h_bp
  have lt_own_p := Own.lt own_p
  refine opv_run (ldC (by kernel_rfl) h_b1 (by rfl)) ?_
  refine callF_val (c_Plane_Len h_bp own_p (hlen 0)) (fun w1 U1 => ?_)
  replace own_p := own_p.upd0 U1
  replace h_b1 := U1.get0 h_b1
  replace h_bp := U1.get0 h_bp
  replace h0 := hst _ _ _ h0 U1
  refine loop_intro (fun g w' => ∃ k : Nat, k ≤ n ∧ g 6 = .int .i64 (k : Int) ∧ J (Gs.cntS (csF 0) k) w') (fun g w' => n - (RowKit.intOf (g 6)).toNat) ?_ (fun g1 wl1 hI => ?_)
  · exact ⟨0, Nat.zero_le _, rfl, h0⟩
  · obtain ⟨k, hk, g6, hJ⟩ := hI
    rw [g6]
    obtain ⟨h_b1, h_bp, own_p⟩ := hcap _ _ hJ
    refine opv_dec (lss _ _ _ _) (fun h2 => ?_) (fun h2 => ?_)
    · refine condt ?_
      refine opv_run (ldC (by kernel_rfl) h_b1 (by rfl)) ?_
      refine callF_val (c_Plane_At h_bp own_p (hlen _) (i := (k : Int))) (fun w3 U3 => ?_)
      replace own_p := own_p.upd0 U3
      replace h_b1 := U3.get0 h_b1
      replace h_bp := U3.get0 h_bp
      replace hJ := hst _ _ _ hJ U3
      refine opv_b (field_one (off := 2) (by kernel_rfl) (by rfl)) (fun h4 => ?_) (fun h4 => ?_)
      · refine gdtt ?_
        refine gdtt ?_
        refine opv_run (ldC (by kernel_rfl) h_b1 (by rfl)) ?_
        refine gdtt ?_
        refine gdtt ?_
        refine callF_val (c_field_at h_bp own_p (hlen _) hN hb (hw _) (i := (k : Int)) ⟨by omega, by rw [← hlen]; omega⟩) (fun w5 U5 => ?_)
        replace own_p := own_p.upd0 U5
        replace h_b1 := U5.get0 h_b1
        replace h_bp := U5.get0 h_bp
        replace hJ := hst _ _ _ hJ U5
        refine gdtt ?_
        refine callYd_i (hy _ _ k (Gs.starts_at (by omega) (by rw [← hst0 (Gs.cntS (csF 0) k) k]; assumption)) hJ) (fun wy6 hJ2 => ?_) (fun wy6 hX => ?_)
        · obtain ⟨h_b1, h_bp, own_p⟩ := hcap _ _ hJ2
          refine gdtt ?_
          refine opv_run (notT) ?_
          refine pickt ?_
          refine condf ?_
          first | refine opv_run (add_i64 _ (by omega)) ?_ | refine opv_run (addI _ _ _ _) ?_
          exact ⟨⟨k + 1, by omega, rfl, by first | (rw [Gs.cnt_T (by rw [← hst0 (Gs.cntS (csF 0) k) k]; assumption)]; exact hJ2) | (rw [Gs.cnt_F (by rw [← hst0 (Gs.cntS (csF 0) k) k]; assumption)]; exact hJ)⟩, cnt_lt (by first | rfl | exact g6) rfl (by omega)⟩
        · refine gdtt ?_
          refine opv_run (notF) ?_
          refine pickt ?_
          refine condt ?_
          first | exact ⟨⟨_, rfl⟩, .inr hX⟩ | exact ⟨⟨_, rfl⟩, .inl (by rw [← Gs.cnt_end, ← hl0, show n = k by omega]; exact hJ)⟩
      · refine gdft ?_
        refine gdft ?_
        refine gdft ?_
        refine gdft ?_
        refine gdft ?_
        refine gdft ?_
        refine pickf ?_
        refine condf ?_
        first | refine opv_run (add_i64 _ (by omega)) ?_ | refine opv_run (addI _ _ _ _) ?_
        exact ⟨⟨k + 1, by omega, rfl, by first | (rw [Gs.cnt_T (by rw [← hst0 (Gs.cntS (csF 0) k) k]; assumption)]; exact hJ2) | (rw [Gs.cnt_F (by rw [← hst0 (Gs.cntS (csF 0) k) k]; assumption)]; exact hJ)⟩, cnt_lt (by first | rfl | exact g6) rfl (by omega)⟩
    · refine condf ?_
      first | exact ⟨⟨_, rfl⟩, .inr hX⟩ | exact ⟨⟨_, rfl⟩, .inl (by rw [← Gs.cnt_end, ← hl0, show n = k by omega]; exact hJ)⟩

/-- greenscreen/field.Places$1 -/
theorem c_field_Places_1 {r c cur : Int} {A : Option Addr} {n cp bp B0 b1 b2 : Nat} {cs : List Gs.Cell} {f : Gs.Fld} {y : Value} {J : Nat → World → Prop} {X : World → Prop} {w : World} (hcap : ∀ k w', J k w' → w'.heap[b1]? = some (.cells #[.pointer (some ⟨bp, 0, none⟩)] 33 (0, 0)) ∧ w'.heap[b2]? = some (.cells (Gs.fv f).toArray 173 (0, 0)) ∧ w'.heap[bp]? = some (.cells #[.int .i64 r, .int .i64 c, .slice A n cp, .int .i64 cur] 91 (0, 0)) ∧ Own B0 w' 37 5 (.slice A n cp) (rows Gs.cv cs)) (hst : ∀ k w' w'', J k w' → Upd no w' w'' → J k w'') (hsx : ∀ w' w'', X w' → Upd no w' w'' → X w'') (hcx : ∀ w', X w' → w'.heap[b1]? = some (.cells #[.pointer (some ⟨bp, 0, none⟩)] 33 (0, 0)) ∧ w'.heap[b2]? = some (.cells (Gs.fv f).toArray 173 (0, 0)) ∧ w'.heap[bp]? = some (.cells #[.int .i64 r, .int .i64 c, .slice A n cp, .int .i64 cur] 91 (0, 0)) ∧ Own B0 w' 37 5 (.slice A n cp) (rows Gs.cv cs)) (hn : n = cs.length) (hN : Gs.cellsN r c = n) (hb : n ≤ 4096) (hy : ∀ k w' x, (Gs.placesL n f)[k]? = some x → J k w' → CallsYd Tryz.prog y #[.int .i64 x] w' (J (k + 1)) X) (h0 : J 0 w) :
    Calls Tryz.prog 161 #[y, .pointer (some ⟨b2, 0, none⟩), .pointer (some ⟨b1, 0, none⟩)] w fun e w' => (∃ v, e = .returned v) ∧ (J (Gs.placesL n f).length w' ∨ X w') := by
  refine F161.calls ?_
  unfold F161
  obtain ⟨h_b1, h_b2, h_bp, own_p⟩ := hcap _ _ h0
  have lt_h_b1 := lt_get h_b1
  have lt_h_b2 := lt_get h_b2
  have lt_h_bp := lt_get h_bp
  have lt_own_p := Own.lt own_p
  refine drawn_S (S := no) (fun w1 U1 => ?_)
  replace own_p := own_p.upd0 U1
  replace h_b1 := U1.get0 h_b1
  replace h_b2 := U1.get0 h_b2
  replace h_bp := U1.get0 h_bp
  replace h0 := hst _ _ _ h0 U1
  refine qop_run (fun w' hw' => (fieldAt_eq (off := 0) (by kernel_rfl))) ?_
  refine qop_run (fun w' hw' => by have h_b2 := hw'.get0 h_b2; exact (ldC (by kernel_rfl) h_b2 (by rfl))) ?_
  refine qop_dec (fun w' hw' => (lss _ _ _ _)) (fun h2 => ?_) (fun h2 => ?_)
  · refine qgdtf ?_
    refine qgdtf ?_
    refine qgdtf ?_
    refine qgdtf ?_
    refine qgdtf ?_
    refine qpickt ?_
    refine ext_intro (fun w3 U3 => ?_)
    replace own_p := own_p.upd0 U3
    replace h_b1 := U3.get0 h_b1
    replace h_b2 := U3.get0 h_b2
    replace h_bp := U3.get0 h_bp
    replace h0 := hst _ _ _ h0 U3
    refine condt ?_
    first | exact ⟨⟨_, rfl⟩, .inr hX⟩ | exact ⟨⟨_, rfl⟩, .inl (by rw [Gs.places_no (by omega)]; exact h0)⟩ | exact ⟨⟨_, rfl⟩, .inl (by rw [show (Gs.placesL n f).length = k by omega]; exact hJ)⟩
  · refine qgdff ?_
    refine qop_run (fun w' hw' => (fieldAt_eq (off := 0) (by kernel_rfl))) ?_
    refine qgdff ?_
    refine qop_run (fun w' hw' => by have h_b2 := hw'.get0 h_b2; exact (ldC (by kernel_rfl) h_b2 (by rfl))) ?_
    refine qgdff ?_
    refine qop_run (fun w' hw' => by have h_b1 := hw'.get0 h_b1; exact (ldC (by kernel_rfl) h_b1 (by rfl))) ?_
    refine qgdff ?_
    refine qop_call (fun w' hw' => by have h_bp := hw'.get0 h_bp; have own_p := own_p.upd0 hw'; exact c_Plane_Len h_bp own_p hn) ?_
    refine qgdff ?_
    refine qop_dec (fun w' hw' => (geq _ _ _ _)) (fun h6 => ?_) (fun h6 => ?_)
    · refine qpickf ?_
      refine ext_intro (fun w7 U7 => ?_)
      replace own_p := own_p.upd0 U7
      replace h_b1 := U7.get0 h_b1
      replace h_b2 := U7.get0 h_b2
      replace h_bp := U7.get0 h_bp
      replace h0 := hst _ _ _ h0 U7
      refine condt ?_
      first | exact ⟨⟨_, rfl⟩, .inr hX⟩ | exact ⟨⟨_, rfl⟩, .inl (by rw [Gs.places_no (by omega)]; exact h0)⟩ | exact ⟨⟨_, rfl⟩, .inl (by rw [show (Gs.placesL n f).length = k by omega]; exact hJ)⟩
    · refine qpickf ?_
      refine ext_intro (fun w9 U9 => ?_)
      replace own_p := own_p.upd0 U9
      replace h_b1 := U9.get0 h_b1
      replace h_b2 := U9.get0 h_b2
      replace h_bp := U9.get0 h_bp
      replace h0 := hst _ _ _ h0 U9
      refine condf ?_
      refine drawn_S (S := no) (fun w10 U10 => ?_)
      replace own_p := own_p.upd0 U10
      replace h_b1 := U10.get0 h_b1
      replace h_b2 := U10.get0 h_b2
      replace h_bp := U10.get0 h_bp
      replace h0 := hst _ _ _ h0 U10
      refine qop_run (fun w' hw' => (fieldAt_eq (off := 1) (by kernel_rfl))) ?_
      refine qop_run (fun w' hw' => by have h_b2 := hw'.get0 h_b2; exact (ldC (by kernel_rfl) h_b2 (by rfl))) ?_
      refine qop_run (fun w' hw' => (maxI _ _ _ _ _)) ?_
      refine qop_run (fun w' hw' => by have h_b1 := hw'.get0 h_b1; exact (ldC (by kernel_rfl) h_b1 (by rfl))) ?_
      refine qop_call (fun w' hw' => by have h_bp := hw'.get0 h_bp; have own_p := own_p.upd0 hw'; exact c_Plane_Len h_bp own_p hn) ?_
      refine qop_run (fun w' hw' => (minI _ _ _ _ _)) ?_
      refine ext_intro (fun w12 U12 => ?_)
      replace own_p := own_p.upd0 U12
      replace h_b1 := U12.get0 h_b1
      replace h_b2 := U12.get0 h_b2
      replace h_bp := U12.get0 h_bp
      replace h0 := hst _ _ _ h0 U12
      refine loop_intro (fun g w' => ∃ k : Nat, k ≤ (Gs.placesL n f).length ∧ g 21 = .int .i64 (k : Int) ∧ J k w') (fun g w' => (Gs.placesL n f).length - (RowKit.intOf (g 21)).toNat) ?_ (fun g1 wl1 hI => ?_)
      · have hpl := Gs.places_len (N := n) (f := f) (by omega)
        exact ⟨0, Nat.zero_le _, rfl, h0⟩
      · have hpl := Gs.places_len (N := n) (f := f) (by omega)
        obtain ⟨k, hk, g21, hJ⟩ := hI
        rw [g21]
        obtain ⟨h_b1, h_b2, h_bp, own_p⟩ := hcap _ _ hJ
        refine opv_dec (lss _ _ _ _) (fun h13 => ?_) (fun h13 => ?_)
        · refine condt ?_
          refine drawn_T (C := (fun w' => w'.heap[b1]? = some (.cells #[.pointer (some ⟨bp, 0, none⟩)] 33 (0, 0)) ∧ w'.heap[b2]? = some (.cells (Gs.fv f).toArray 173 (0, 0)) ∧ w'.heap[bp]? = some (.cells #[.int .i64 r, .int .i64 c, .slice A n cp, .int .i64 cur] 91 (0, 0)) ∧ Own B0 w' 37 5 (.slice A n cp) (rows Gs.cv cs))) (fun a b hC U => ⟨U.get0 hC.1, U.get0 hC.2.1, U.get0 hC.2.2.1, hC.2.2.2.upd0 U⟩) (fun w14 U14 => ?_)
          replace own_p := own_p.upd0 U14
          replace h_b1 := U14.get0 h_b1
          replace h_b2 := U14.get0 h_b2
          replace h_bp := U14.get0 h_bp
          replace hJ := hst _ _ _ hJ U14
          refine qop_run (fun w' hw' => by have hC' := hw' ⟨h_b1, h_b2, h_bp, own_p⟩; have h_b1 := hC'.1; exact (ldC (by kernel_rfl) h_b1 (by rfl))) ?_
          refine qop_call (fun w' hw' => by have hC' := hw' ⟨h_b1, h_b2, h_bp, own_p⟩; have h_bp := hC'.2.2.1; have own_p := hC'.2.2.2; exact c_Plane_Size h_bp own_p hn) ?_
          refine qop_run (fun w' hw' => (fieldAt_eq (off := 0) (by kernel_rfl))) ?_
          refine qop_run (fun w' hw' => by have hC' := hw' ⟨h_b1, h_b2, h_bp, own_p⟩; have h_b2 := hC'.2.1; exact (ldC (by kernel_rfl) h_b2 (by rfl))) ?_
          first | refine qop_run (fun w' hw' => (add_i64 _ (by omega))) ?_ | refine qop_run (fun w' hw' => (addI _ _ _ _)) ?_
          refine qop_call (fun w' hw' => c_addr_Move (i := f.s) (j := (k : Int) + 1)) ?_
          rw [hN, Gs.moveN_at (by omega), show ((k : Int) + 1) = ((k + 1 : Nat) : Int) by omega]
          refine ext_intro (fun w17 U17 => ?_)
          replace own_p := own_p.upd0 U17
          replace h_b1 := U17.get0 h_b1
          replace h_b2 := U17.get0 h_b2
          replace h_bp := U17.get0 h_bp
          replace hJ := hst _ _ _ hJ U17
          refine lop_i ?_
          refine callYd_i (hy k _ _ (Gs.places_at (by omega)) hJ) (fun wy18 hJ2 => ?_) (fun wy18 hX => ?_)
          · obtain ⟨h_b1, h_b2, h_bp, own_p⟩ := hcap _ _ hJ2
            refine ⟨fun _ => hcap _ _ hJ2, ?_⟩
            refine qop_run (fun w' hw' => (notT)) ?_
            refine ext_intro (fun w19 U19 => ?_)
            replace own_p := own_p.upd0 U19
            replace h_b1 := U19.get0 h_b1
            replace h_b2 := U19.get0 h_b2
            replace h_bp := U19.get0 h_bp
            replace hJ2 := hst _ _ _ hJ2 U19
            refine condf ?_
            first | refine opv_run (add_i64 _ (by omega)) ?_ | refine opv_run (addI _ _ _ _) ?_
            exact ⟨⟨k + 1, by omega, rfl, hJ2⟩, cnt_lt (by first | rfl | exact g21) rfl (by omega)⟩
          · refine ⟨fun _ => hcx _ hX, ?_⟩
            refine qop_run (fun w' hw' => (notF)) ?_
            refine ext_intro (fun w20 U20 => ?_)
            replace hX := hsx _ _ hX U20
            refine condt ?_
            first | exact ⟨⟨_, rfl⟩, .inr hX⟩ | exact ⟨⟨_, rfl⟩, .inl (by rw [Gs.places_no (by omega)]; exact h0)⟩ | exact ⟨⟨_, rfl⟩, .inl (by rw [show (Gs.placesL n f).length = k by omega]; exact hJ)⟩
        · refine condf ?_
          first | exact ⟨⟨_, rfl⟩, .inr hX⟩ | exact ⟨⟨_, rfl⟩, .inl (by rw [Gs.places_no (by omega)]; exact h0)⟩ | exact ⟨⟨_, rfl⟩, .inl (by rw [show (Gs.placesL n f).length = k by omega]; exact hJ)⟩

end Go.Proofs.YtjdoakbadehicaaGreatDoor
namespace Go.Proofs.YtjdoakbadehicaaGreatDoor
open Go Go.Sh
set_option linter.unusedVariables false
set_option maxRecDepth 100000


/-- greenscreen/field.Home -/
theorem c_field_Home {r c cur : Int} {A : Option Addr} {n cp bp B0 : Nat} {cs : List Gs.Cell} {w : World} (h_bp : w.heap[bp]? = some (.cells #[.int .i64 r, .int .i64 c, .slice A n cp, .int .i64 cur] 91 (0, 0))) (own_p : Own B0 w 37 5 (.slice A n cp) (rows Gs.cv cs)) (hn : n = cs.length) (hN : Gs.cellsN r c = n) (hb : n ≤ 4096) (hcw : Gs.Cws cs)  :
    Calls Tryz.prog 133 #[.pointer (some ⟨bp, 0, none⟩)] w fun e w' => e = .returned (.int .i64 (Gs.homeM cs)) ∧ Upd no w w' := by
  refine F133.calls ?_
  unfold F133
  subst hn
  have lt_h_bp := lt_get h_bp
  have lt_own_p := Own.lt own_p
  have hF : Upd no w w := Fr.refl _ _ _
  refine box_intro (by rfl) (fun b1 w1 e1 h_b1 _ U1 => ?_)
  have ne_bp_b1 : bp ≠ b1 := by have := lt_get h_bp; omega
  have na_own_p_b1 := own_p.apart e1
  have ge_b1 : w.heap.size ≤ b1 := by have := hF.size; omega
  replace own_p := own_p.upd0 U1
  replace h_bp := U1.get0 h_bp
  replace hF := hF.go0 U1
  clear e1
  refine alloc_intro (cs := #[.int .i64 0]) (by kernel_rfl) (fun b2 w2 e2 h_b2 _ U2 => ?_)
  have ne_bp_b2 : bp ≠ b2 := by have := lt_get h_bp; omega
  have na_own_p_b2 := own_p.apart e2
  have ne_b1_b2 : b1 ≠ b2 := by have := lt_get h_b1; omega
  have ge_b2 : w.heap.size ≤ b2 := by have := hF.size; omega
  replace own_p := own_p.upd0 U2
  replace h_bp := U2.get0 h_bp
  replace h_b1 := U2.get0 h_b1
  replace hF := hF.go0 U2
  clear e2
  refine join_cut (fun g w' => ∃ (D2 : Nat), (g 1000000 = mkV D2 undef) ∧ (w.heap.size ≤ D2) ∧ (w'.heap[D2]? = some (.deferred (some []))) ∧ (Gs.noneH cs (Gs.startsN cs).length) ∧ (w'.heap[b2]? = some (.cells #[.int .i64 0] 3 (0, 0))) ∧ (Upd no w w')) (fun J1 hJ1 => ?_) (fun gJ1 wJ1 hI => ?_)
  · refine opv_run (ldC (by kernel_rfl) h_b1 (by rfl)) ?_
    refine callF_ex (c_field_All h_bp own_p rfl) (fun v3 w3 D3 => ?_)
    obtain ⟨b1_5, rfl, g1_5, h_b1_5, U3⟩ := D3
    have ne_bp_b1_5 : bp ≠ b1_5 := by have := lt_get h_bp; omega
    have na_own_p_b1_5 : ∀ k, ownS _ k → k ≠ b1_5 := fun k hk => by have := (Own.ge own_p hk).2; omega
    have ne_b1_b1_5 : b1 ≠ b1_5 := by have := lt_get h_b1; omega
    have ne_b2_b1_5 : b2 ≠ b1_5 := by have := lt_get h_b2; omega
    have ge_b1_5 : w.heap.size ≤ b1_5 := by have := hF.size; omega
    replace own_p := own_p.upd0 U3
    replace h_bp := U3.get0 h_bp
    replace h_b1 := U3.get0 h_b1
    replace h_b2 := U3.get0 h_b2
    replace hF := hF.go0 U3
    refine rangeF_i (by kernel_rfl) (fun w4 l2 D2 Rdy2 Bsy2 Dn2 y2 eD el h_D2 h_l2 lp1 lp2 lp3 sz4 U4 hY => ?_)
    have lp2_2 := lp2
    have ne_bp_D2 : bp ≠ D2 := by have := lt_get h_bp; omega
    have ne_bp_l2 : bp ≠ l2 := by have := lt_get h_bp; omega
    have na_own_p_D2 : ∀ k, ownS _ k → k ≠ D2 := fun k hk => by have := (Own.ge own_p hk).2; omega
    have na_own_p_l2 : ∀ k, ownS _ k → k ≠ l2 := fun k hk => by have := (Own.ge own_p hk).2; omega
    have ne_b1_D2 : b1 ≠ D2 := by have := lt_get h_b1; omega
    have ne_b1_l2 : b1 ≠ l2 := by have := lt_get h_b1; omega
    have ne_b2_D2 : b2 ≠ D2 := by have := lt_get h_b2; omega
    have ne_b2_l2 : b2 ≠ l2 := by have := lt_get h_b2; omega
    have ne_b1_5_D2 : b1_5 ≠ D2 := by have := lt_get h_b1_5; omega
    have ne_b1_5_l2 : b1_5 ≠ l2 := by have := lt_get h_b1_5; omega
    have ge_D2 : w.heap.size ≤ D2 := by have := hF.size; omega
    have ge_l2 : w.heap.size ≤ l2 := by have := hF.size; omega
    have ne_D2_l2 : D2 ≠ l2 := by omega
    replace own_p := own_p.upd0 U4
    replace h_bp := U4.get0 h_bp
    replace h_b1 := U4.get0 h_b1
    replace h_b2 := U4.get0 h_b2
    replace h_b1_5 := U4.get0 h_b1_5
    replace hF := hF.go0 U4
    refine Calls.mono (c_field_All_1 (b1 := b1_5) (csF := (fun _ => cs)) (J := (fun (k : Nat) (w' : World) => (Gs.noneH cs k) ∧ (w'.heap[bp]? = some (.cells #[.int .i64 r, .int .i64 c, .slice A cs.length cp, .int .i64 cur] 91 (0, 0))) ∧ (Own B0 w' 37 5 (.slice A cs.length cp) (rows Gs.cv cs)) ∧ (w'.heap[b1_5]? = some (.cells #[.pointer (some ⟨bp, 0, none⟩)] 33 (0, 0))) ∧ (w'.heap[b1]? = some (.cells #[.pointer (some ⟨bp, 0, none⟩)] 33 (0, 0))) ∧ (w'.heap[b2]? = some (.cells #[.int .i64 0] 3 (0, 0))) ∧ (w'.heap[D2]? = some (.deferred (some []))) ∧ (w'.heap[l2]? = some Rdy2) ∧ (Upd no w w'))) (X := (fun (w' : World) => (w'.heap[l2]? = some (Dn2 0)) ∧ (w'.heap[b2]? = some (.cells #[.int .i64 (Gs.homeM cs)] 3 (0, 0))) ∧ (w'.heap[D2]? = some (.deferred (some []))) ∧ (Upd no w w'))) (fun _ w' hJ => by obtain ⟨hno, h_bp, own_p, h_b1_5, h_b1, h_b2, h_D2, h_l2, hF⟩ := hJ; exact ⟨h_b1_5, h_bp, own_p⟩) (fun _ w' w'' hJ U' => by obtain ⟨hno, h_bp, own_p, h_b1_5, h_b1, h_b2, h_D2, h_l2, hF⟩ := hJ; exact ⟨hno, U'.get0 h_bp, own_p.upd0 U', U'.get0 h_b1_5, U'.get0 h_b1, U'.get0 h_b2, U'.get0 h_D2, U'.get0 h_l2, hF.go0 U'⟩) (fun w' w'' hX U' => by obtain ⟨h_x, h_b2, h_D2, hF⟩ := hX; exact ⟨U'.get0 h_x, U'.get0 h_b2, U'.get0 h_D2, hF.go0 U'⟩) (fun _ => rfl) (fun _ => hcw) (fun _ _ => rfl) hN hb ?_ ?_) ?_
    · intro k wl2 xk hx hI
      obtain ⟨hno, h_bp, own_p, h_b1_5, h_b1, h_b2, h_D2, h_l2, hF⟩ := hI
      have hk := (List.getElem?_eq_some_iff.1 hx).1
      have hsl := Gs.starts_len_le cs
      refine hY [.agg (Gs.fv (Gs.atM cs xk)).toArray] _ _ rfl h_l2 ?_
      try simp only [List.getD_cons_zero, List.getD_cons_succ]
      refine alloc_intro (cs := (Gs.fv Gs.zf).toArray) (by kernel_rfl) (fun b5 w5 e5 h_b5 _ U5 => ?_)
      have ne_bp_b5 : bp ≠ b5 := by have := lt_get h_bp; omega
      have na_own_p_b5 := own_p.apart e5
      have ne_b1_5_b5 : b1_5 ≠ b5 := by have := lt_get h_b1_5; omega
      have ne_b1_b5 : b1 ≠ b5 := by have := lt_get h_b1; omega
      have ne_b2_b5 : b2 ≠ b5 := by have := lt_get h_b2; omega
      have ne_D2_b5 : D2 ≠ b5 := by have := lt_get h_D2; omega
      have ne_l2_b5 : l2 ≠ b5 := by have := lt_get h_l2; omega
      have ge_b5 : w.heap.size ≤ b5 := by have := hF.size; omega
      replace own_p := own_p.upd0 U5
      replace h_bp := U5.get0 h_bp
      replace h_b1_5 := U5.get0 h_b1_5
      replace h_b1 := U5.get0 h_b1
      replace h_b2 := U5.get0 h_b2
      replace h_D2 := U5.get0 h_D2
      replace h_l2 := U5.get0 h_l2
      replace hF := hF.go0 U5
      clear e5
      refine store_intro (n := 3) (cs' := (Gs.fv (Gs.atM cs xk)).toArray) (by kernel_rfl) (by rfl) (by first | rfl | (simp [Value.cells, Value.oneCell', Gs.cv, Gs.fv]; done)) h_b5 (by first | exact Nat.le_of_ble_eq_true rfl | (simp; done) | omega) (by rfl) (fun w6 N6 _ U6 => ?_)
      replace own_p := own_p.upd1 U6 na_own_p_b5
      replace h_bp := U6.get1 h_bp ne_bp_b5
      replace h_b1_5 := U6.get1 h_b1_5 ne_b1_5_b5
      replace h_b1 := U6.get1 h_b1 ne_b1_b5
      replace h_b2 := U6.get1 h_b2 ne_b2_b5
      replace h_D2 := U6.get1 h_D2 ne_D2_b5
      replace h_l2 := U6.get1 h_l2 ne_l2_b5
      replace h_b5 := N6
      replace hF := hF.go1 U6 ge_b5
      refine midR_i h_l2 (fun w7 N7 _ U7 => ?_)
      replace own_p := own_p.upd1 U7 na_own_p_l2
      replace h_bp := U7.get1 h_bp ne_bp_l2
      replace h_b1_5 := U7.get1 h_b1_5 ne_b1_5_l2
      replace h_b1 := U7.get1 h_b1 ne_b1_l2
      replace h_b2 := U7.get1 h_b2 ne_b2_l2
      replace h_D2 := U7.get1 h_D2 ne_D2_l2
      replace h_b5 := U7.get1 h_b5 (Ne.symm ne_l2_b5)
      replace h_l2 := N7
      replace hF := hF.go1 U7 ge_l2
      refine opv_run (fieldAt_eq (off := 1) (by kernel_rfl)) ?_
      refine opv_run (ldC (by kernel_rfl) h_b5 (by rfl)) ?_
      refine opv_dec (gtr _ _ _ _) (fun h8 => ?_) (fun h8 => ?_)
      · refine gdtt ?_
        refine opv_run (fieldAt_eq (off := 2) (by kernel_rfl)) ?_
        refine gdtt ?_
        refine opv_run (ldC (by kernel_rfl) h_b5 (by rfl)) ?_
        refine gdtt ?_
        refine callF_bool (c_attr_Protected (Gs.at_a hcw xk)) (fun w9 U9 h9 => ?_) (fun w9 U9 h9 => ?_)
        · replace own_p := own_p.upd0 U9
          replace h_bp := U9.get0 h_bp
          replace h_b1_5 := U9.get0 h_b1_5
          replace h_b1 := U9.get0 h_b1
          replace h_b2 := U9.get0 h_b2
          replace h_D2 := U9.get0 h_D2
          replace h_l2 := U9.get0 h_l2
          replace h_b5 := U9.get0 h_b5
          replace hF := hF.go0 U9
          try simp only [decide_eq_true_eq, decide_eq_false_iff_not] at h9
          refine gdtt ?_
          refine opv_run (notT) ?_
          refine pickt ?_
          refine condf ?_
          refine finN h_l2 (fun w10 N10 _ U10 => ?_)
          replace own_p := own_p.upd1 U10 na_own_p_l2
          replace h_bp := U10.get1 h_bp ne_bp_l2
          replace h_b1_5 := U10.get1 h_b1_5 ne_b1_5_l2
          replace h_b1 := U10.get1 h_b1 ne_b1_l2
          replace h_b2 := U10.get1 h_b2 ne_b2_l2
          replace h_D2 := U10.get1 h_D2 ne_D2_l2
          replace h_b5 := U10.get1 h_b5 (Ne.symm ne_l2_b5)
          replace h_l2 := N10
          replace hF := hF.go1 U10 ge_l2
          exact ⟨(Gs.noneH_step hno hx (by first | exact Gs.homeF_l (by assumption) | exact Gs.homeF_p (by assumption))), h_bp, own_p, h_b1_5, h_b1, h_b2, h_D2, h_l2, hF⟩
        · replace own_p := own_p.upd0 U9
          replace h_bp := U9.get0 h_bp
          replace h_b1_5 := U9.get0 h_b1_5
          replace h_b1 := U9.get0 h_b1
          replace h_b2 := U9.get0 h_b2
          replace h_D2 := U9.get0 h_D2
          replace h_l2 := U9.get0 h_l2
          replace h_b5 := U9.get0 h_b5
          replace hF := hF.go0 U9
          try simp only [decide_eq_true_eq, decide_eq_false_iff_not] at h9
          refine gdtt ?_
          refine opv_run (notF) ?_
          refine pickt ?_
          refine condt ?_
          refine drawn_S (S := no) (fun w11 U11 => ?_)
          replace own_p := own_p.upd0 U11
          replace h_bp := U11.get0 h_bp
          replace h_b1_5 := U11.get0 h_b1_5
          replace h_b1 := U11.get0 h_b1
          replace h_b2 := U11.get0 h_b2
          replace h_D2 := U11.get0 h_D2
          replace h_l2 := U11.get0 h_l2
          replace h_b5 := U11.get0 h_b5
          replace hF := hF.go0 U11
          refine qop_run (fun w' hw' => by have h_b1 := hw'.get0 h_b1; exact (ldC (by kernel_rfl) h_b1 (by rfl))) ?_
          refine qop_call (fun w' hw' => by have h_bp := hw'.get0 h_bp; have own_p := own_p.upd0 hw'; exact c_Plane_Size h_bp own_p rfl) ?_
          refine qop_run (fun w' hw' => (fieldAt_eq (off := 0) (by kernel_rfl))) ?_
          refine qop_run (fun w' hw' => by have h_b5 := hw'.get0 h_b5; exact (ldC (by kernel_rfl) h_b5 (by rfl))) ?_
          refine qop_call (fun w' hw' => c_addr_Move (i := (xk : Int)) (j := 1)) ?_
          rw [hN, Gs.moveN_at (by omega), Gs.home_at hno hx (Gs.homeF_T (by assumption) (by assumption))]
          refine ext_intro (fun w14 U14 => ?_)
          replace own_p := own_p.upd0 U14
          replace h_bp := U14.get0 h_bp
          replace h_b1_5 := U14.get0 h_b1_5
          replace h_b1 := U14.get0 h_b1
          replace h_b2 := U14.get0 h_b2
          replace h_D2 := U14.get0 h_D2
          replace h_l2 := U14.get0 h_l2
          replace h_b5 := U14.get0 h_b5
          replace hF := hF.go0 U14
          refine store1_intro (by kernel_rfl) rfl rfl h_b2 (by first | exact Nat.le_of_ble_eq_true rfl | (simp; done) | omega | (simp [vals_length, *]; done) | (simp [vals_length, *]; omega)) (by first | (simp [vals_set]; rfl) | rfl) (fun w15 N15 _ U15 => ?_)
          replace own_p := own_p.upd1 U15 na_own_p_b2
          replace h_bp := U15.get1 h_bp ne_bp_b2
          replace h_b1_5 := U15.get1 h_b1_5 (Ne.symm ne_b2_b1_5)
          replace h_b1 := U15.get1 h_b1 ne_b1_b2
          replace h_D2 := U15.get1 h_D2 (Ne.symm ne_b2_D2)
          replace h_l2 := U15.get1 h_l2 (Ne.symm ne_b2_l2)
          replace h_b5 := U15.get1 h_b5 (Ne.symm ne_b2_b5)
          replace h_b2 := N15
          replace hF := hF.go1 U15 ge_b2
          refine ext_intro (fun w16 U16 => ?_)
          replace own_p := own_p.upd0 U16
          replace h_bp := U16.get0 h_bp
          replace h_b1_5 := U16.get0 h_b1_5
          replace h_b1 := U16.get0 h_b1
          replace h_b2 := U16.get0 h_b2
          replace h_D2 := U16.get0 h_D2
          replace h_l2 := U16.get0 h_l2
          replace h_b5 := U16.get0 h_b5
          replace hF := hF.go0 U16
          refine finT h_l2 (fun w17 N17 _ U17 => ?_)
          replace own_p := own_p.upd1 U17 na_own_p_l2
          replace h_bp := U17.get1 h_bp ne_bp_l2
          replace h_b1_5 := U17.get1 h_b1_5 ne_b1_5_l2
          replace h_b1 := U17.get1 h_b1 ne_b1_l2
          replace h_b2 := U17.get1 h_b2 ne_b2_l2
          replace h_D2 := U17.get1 h_D2 ne_D2_l2
          replace h_b5 := U17.get1 h_b5 (Ne.symm ne_l2_b5)
          replace h_l2 := N17
          replace hF := hF.go1 U17 ge_l2
          exact ⟨h_l2, h_b2, h_D2, hF⟩
      · refine gdft ?_
        refine gdft ?_
        refine gdft ?_
        refine gdft ?_
        refine pickf ?_
        refine condf ?_
        refine finN h_l2 (fun w18 N18 _ U18 => ?_)
        replace own_p := own_p.upd1 U18 na_own_p_l2
        replace h_bp := U18.get1 h_bp ne_bp_l2
        replace h_b1_5 := U18.get1 h_b1_5 ne_b1_5_l2
        replace h_b1 := U18.get1 h_b1 ne_b1_l2
        replace h_b2 := U18.get1 h_b2 ne_b2_l2
        replace h_D2 := U18.get1 h_D2 ne_D2_l2
        replace h_b5 := U18.get1 h_b5 (Ne.symm ne_l2_b5)
        replace h_l2 := N18
        replace hF := hF.go1 U18 ge_l2
        exact ⟨(Gs.noneH_step hno hx (by first | exact Gs.homeF_l (by assumption) | exact Gs.homeF_p (by assumption))), h_bp, own_p, h_b1_5, h_b1, h_b2, h_D2, h_l2, hF⟩
    · exact ⟨(Gs.noneH_0 _), h_bp, own_p, h_b1_5, h_b1, h_b2, h_D2, h_l2, hF⟩
    rintro e wE2 ⟨hv, hI | hI⟩
    · obtain ⟨hno, h_bp, own_p, h_b1_5, h_b1, h_b2, h_D2, h_l2, hF⟩ := hI
      refine ⟨hv, .inl ⟨h_l2, fun w19 _ U19 => ?_⟩⟩
      replace own_p := own_p.upd1 U19 na_own_p_l2
      replace h_bp := U19.get1 h_bp ne_bp_l2
      replace h_b1_5 := U19.get1 h_b1_5 ne_b1_5_l2
      replace h_b1 := U19.get1 h_b1 ne_b1_l2
      replace h_b2 := U19.get1 h_b2 ne_b2_l2
      replace h_D2 := U19.get1 h_D2 ne_D2_l2
      replace hF := hF.go1 U19 ge_l2
      refine hJ1 _ _ ?_
      exact ⟨_, (by first | exact g1000000 | rfl), ge_D2, h_D2, hno, h_b2, hF⟩
    · obtain ⟨h_x, h_b2, h_D2, hF⟩ := hI
      refine ⟨hv, .inr ⟨0, _, List.mem_singleton.2 rfl, h_x, fun w20 _ U20 => ?_⟩⟩
      replace h_b2 := U20.get1 h_b2 ne_b2_l2
      replace h_D2 := U20.get1 h_D2 ne_D2_l2
      replace hF := hF.go1 U20 ge_l2
      refine leave1 h_D2 (fun w22 _ U22 => ?_)
      replace h_b2 := U22.get1 h_b2 ne_b2_D2
      replace hF := hF.go1 U22 ge_D2
      refine ldv_run (ldC (by kernel_rfl) h_b2 (by rfl)) ?_
      first | exact ⟨rfl, hF⟩ | (rw [Gs.home_none hno]; exact ⟨rfl, hF⟩)
  · obtain ⟨D2, g1000000, ge_D2, h_D2, hno, h_b2, hF⟩ := hI
    try rw [g1000000]
    refine store1_intro (by kernel_rfl) rfl rfl h_b2 (by first | exact Nat.le_of_ble_eq_true rfl | (simp; done) | omega | (simp [vals_length, *]; done) | (simp [vals_length, *]; omega)) (by first | (simp [vals_set]; rfl) | rfl) (fun w23 N23 _ U23 => ?_)
    replace h_D2 := U23.get1 h_D2 (by first | omega | exact blk_ne (by assumption) (by assumption) (by decide) | exact blk_not_loop (by assumption) (by assumption) (by assumption) | exact Ne.symm (blk_not_loop (by assumption) (by assumption) (by assumption)) | exact blk_not_def (by assumption) (by assumption) | exact Ne.symm (blk_not_def (by assumption) (by assumption)) | exact def_ne_blk (by assumption) (by assumption) | exact Ne.symm (def_ne_blk (by assumption) (by assumption)))
    replace h_b2 := N23
    replace hF := hF.go1 U23 ge_b2
    refine leave1 h_D2 (fun w25 _ U25 => ?_)
    replace h_b2 := U25.get1 h_b2 (by first | omega | exact blk_ne (by assumption) (by assumption) (by decide) | exact blk_not_loop (by assumption) (by assumption) (by assumption) | exact Ne.symm (blk_not_loop (by assumption) (by assumption) (by assumption)) | exact blk_not_def (by assumption) (by assumption) | exact Ne.symm (blk_not_def (by assumption) (by assumption)) | exact def_ne_blk (by assumption) (by assumption) | exact Ne.symm (def_ne_blk (by assumption) (by assumption)))
    replace hF := hF.go1 U25 ge_D2
    refine ldv_run (ldC (by kernel_rfl) h_b2 (by rfl)) ?_
    first | exact ⟨rfl, hF⟩ | (rw [Gs.home_none hno]; exact ⟨rfl, hF⟩)

end Go.Proofs.YtjdoakbadehicaaGreatDoor
