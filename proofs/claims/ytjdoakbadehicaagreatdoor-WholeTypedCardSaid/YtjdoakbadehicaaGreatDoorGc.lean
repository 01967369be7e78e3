/-
  Contracts of functions of the program, walked over their shallow forms. No condition but the ones that each states.
-/
import Derived.Test.YtjdoakbadehicaaGreatDoorGb
import Derived.Test.YtjdoakbadehicaaGreatDoorFr
namespace Go.Proofs.YtjdoakbadehicaaGreatDoor
open Go Go.Sh
set_option linter.unusedVariables false
set_option maxRecDepth 100000


/-- greenscreen/grammar.caught[greenscreen/grammar.Inbound]$1, behind its recover -/
theorem r_inb_P {r4 r5 : Nat} {x : Int} {w : World} (h_r4 : w.heap[r4]? = some (.cells #[.int .u8 0, .bool false, .int .i64 0, .slice none 0 0] 48 (0, 0))) (h_r5 : w.heap[r5]? = some (.cells #[.int .i64 0] 25 (0, 0))) (hne : r4 ≠ r5) :
    F94r (fun e w' => e = .returned (.tuple #[]) ∧ w'.heap[r4]? = some (.cells #[.int .u8 0, .bool false, .int .i64 0, .slice none 0 0] 48 (0, 0)) ∧ w'.heap[r5]? = some (.cells #[.int .i64 x] 25 (0, 0)) ∧ Upd (fun k => k = r4 ∨ k = r5) w w') w (.pointer (some ⟨r4, 0, none⟩)) (.pointer (some ⟨r5, 0, none⟩)) (.iface 149 (.agg #[.int .i64 x])) := by
  unfold F94r
  have lt_h_r4 := lt_get h_r4
  have lt_h_r5 := lt_get h_r5
  have hF : Upd (fun k => k = r4 ∨ k = r5) w w := Fr.refl _ _ _
  refine opv_run (eqIfN (by kernel_rfl)) ?_
  refine condf ?_
  refine opv_run (assertT (by kernel_rfl)) ?_
  refine opv_run (ext_t (by rfl)) ?_
  refine opv_run (ext_t (by rfl)) ?_
  refine alloc_intro (cs := #[.int .i64 0]) (by kernel_rfl) (fun b1 w1 e1 h_b1 _ U1 => ?_)
  have ne_r4_b1 : r4 ≠ b1 := by have := lt_get h_r4; omega
  have ne_r5_b1 : r5 ≠ b1 := by have := lt_get h_r5; omega
  have ge_b1 : w.heap.size ≤ b1 := by have := hF.size; omega
  replace h_r4 := U1.get0 h_r4
  replace h_r5 := U1.get0 h_r5
  replace hF := hF.go0 U1
  clear e1
  refine store_intro (n := 1) (by kernel_rfl) (by rfl) (by first | rfl | (simp [Value.cells, Value.oneCell', Gs.cv, Gs.ie]; done)) h_b1 (by first | exact Nat.le_of_ble_eq_true rfl | (simp; done) | omega) (by first | (simp; rfl) | rfl) (fun w2 N2 _ U2 => ?_)
  replace h_r4 := U2.get1 h_r4 ne_r4_b1
  replace h_r5 := U2.get1 h_r5 ne_r5_b1
  replace h_b1 := N2
  replace hF := hF.go1 U2 ge_b1
  refine join_cut (fun g w' => (w'.heap[r4]? = some (.cells #[.int .u8 0, .bool false, .int .i64 0, .slice none 0 0] 48 (0, 0))) ∧ (w'.heap[r5]? = some (.cells #[.int .i64 0] 25 (0, 0))) ∧ (w'.heap[b1]? = some (.cells #[.int .i64 x] 149 (0, 0))) ∧ (Upd (fun k => k = r4 ∨ k = r5) w w')) (fun J1 hJ1 => ?_) (fun gJ1 wJ1 hI => ?_)
  · refine opv_run (notT) ?_
    refine condf ?_
    refine hJ1 _ _ ?_
    exact ⟨h_r4, h_r5, h_b1, hF⟩
  · obtain ⟨h_r4, h_r5, h_b1, hF⟩ := hI
    refine alloc_intro (cs := #[.int .u8 0, .bool false, .int .i64 0, .slice none 0 0]) (by kernel_rfl) (fun b3 w3 e3 h_b3 _ U3 => ?_)
    have ne_r4_b3 : r4 ≠ b3 := by have := lt_get h_r4; omega
    have ne_r5_b3 : r5 ≠ b3 := by have := lt_get h_r5; omega
    have ne_b1_b3 : b1 ≠ b3 := by have := lt_get h_b1; omega
    have ge_b3 : w.heap.size ≤ b3 := by have := hF.size; omega
    replace h_r4 := U3.get0 h_r4
    replace h_r5 := U3.get0 h_r5
    replace h_b1 := U3.get0 h_b1
    replace hF := hF.go0 U3
    clear e3
    refine drawn_S (S := (· = r4)) (fun w4 U4 => ?_)
    replace h_r4 := U4.get0 h_r4
    replace h_r5 := U4.get0 h_r5
    replace h_b1 := U4.get0 h_b1
    replace h_b3 := U4.get0 h_b3
    replace hF := hF.go0 U4
    refine qop_run (fun w' hw' => by have h_b3 := hw'.get1 h_b3 (Ne.symm ne_r4_b3); exact (ldA (n := 4) (by kernel_rfl) h_b3 (by first | exact Nat.le_of_ble_eq_true rfl | (simp; done) | omega) (by rfl))) ?_
    refine qop_run (fun w' hw' => (fieldAt_eq (off := 0) (by kernel_rfl))) ?_
    refine qop_run (fun w' hw' => by have h_b1 := hw'.get1 h_b1 (Ne.symm ne_r4_b1); exact (ldC (by kernel_rfl) h_b1 (by rfl))) ?_
    refine ext_intro (fun w5 U5 => ?_)
    replace h_r4 := U5.get0 h_r4
    replace h_r5 := U5.get0 h_r5
    replace h_b1 := U5.get0 h_b1
    replace h_b3 := U5.get0 h_b3
    replace hF := hF.go0 U5
    refine lop_i ?_
    refine store_intro (n := 4) (by kernel_rfl) (by rfl) (by first | rfl | (simp [Value.cells, Value.oneCell', Gs.cv, Gs.ie]; done)) h_r4 (by first | exact Nat.le_of_ble_eq_true rfl | (simp; done) | omega) (by first | (simp; rfl) | rfl) (fun w6 N6 _ U6 => ?_)
    replace h_r5 := U6.get1 h_r5 (Ne.symm hne)
    replace h_b1 := U6.get1 h_b1 (Ne.symm ne_r4_b1)
    replace h_b3 := U6.get1 h_b3 (Ne.symm ne_r4_b3)
    replace h_r4 := N6
    replace hF := hF.go U6 (fun i _ h => .inl h)
    refine ⟨U6, ?_⟩
    refine ext_intro (fun w7 U7 => ?_)
    replace h_r4 := U7.get0 h_r4
    replace h_r5 := U7.get0 h_r5
    replace h_b1 := U7.get0 h_b1
    replace h_b3 := U7.get0 h_b3
    replace hF := hF.go0 U7
    refine store1_intro (by kernel_rfl) rfl rfl h_r5 (by first | exact Nat.le_of_ble_eq_true rfl | (simp; done) | omega | (simp [vals_length, *]; done) | (simp [vals_length, *]; omega)) (by first | (simp [vals_set]; rfl) | rfl) (fun w8 N8 _ U8 => ?_)
    replace h_r4 := U8.get1 h_r4 hne
    replace h_b1 := U8.get1 h_b1 (Ne.symm ne_r5_b1)
    replace h_b3 := U8.get1 h_b3 (Ne.symm ne_r5_b3)
    replace h_r5 := N8
    replace hF := hF.go U8 (fun i _ h => .inr h)
    refine ext_intro (fun w9 U9 => ?_)
    replace h_r4 := U9.get0 h_r4
    replace h_r5 := U9.get0 h_r5
    replace h_b1 := U9.get0 h_b1
    replace h_b3 := U9.get0 h_b3
    replace hF := hF.go0 U9
    exact ⟨rfl, h_r4, h_r5, hF⟩

/-- greenscreen/grammar.caught[greenscreen/grammar.Inbound]$1, behind its recover -/
theorem r_inb_I {r4 r5 : Nat} {w : World} :
    F94r (fun e w' => e = .returned (.tuple #[]) ∧ Upd no w w') w (.pointer (some ⟨r4, 0, none⟩)) (.pointer (some ⟨r5, 0, none⟩)) (.nilIface) := by
  unfold F94r
  have hF : Upd no w w := Fr.refl _ _ _
  refine opv_run (eqNN (by kernel_rfl)) ?_
  refine condt ?_
  exact ⟨rfl, hF⟩

end Go.Proofs.YtjdoakbadehicaaGreatDoor
