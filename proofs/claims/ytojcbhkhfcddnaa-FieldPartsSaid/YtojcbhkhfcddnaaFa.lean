/-
  Contracts of functions of the program, walked over their shallow forms. No condition but the ones that each states.
-/
import Derived.Test.YtojcbhkhfcddnaaPe
import Derived.Test.YtojcbhkhfcddnaaFieldModel
import Derived.Test.YtojcbhkhfcddnaaBits2
namespace Go.Proofs.Ytojcbhkhfcddnaa
open Go Go.Sh
set_option linter.unusedVariables false
set_option maxRecDepth 100000


/-- greenscreen/attr.Protected -/
theorem c_attr_Protected {x : Int} {w : World} (hx : 0 ≤ x ∧ x ≤ 255) :
    Calls Try.prog 42 #[.int .u8 x] w fun e w' => e = .returned (.bool (decide (x / 32 % 2 = 1))) ∧ Upd no w w' := by
  refine F42.calls ?_
  unfold F42
  have hF : Upd no w w := Fr.refl _ _ _
  refine opv_run (and8_32 _ (by omega)) ?_
  refine opv_run (neI _ _ _ _ _) ?_
  first | exact ⟨retB (by omega), hF⟩ | exact ⟨retT (by omega), hF⟩ | exact ⟨retF (by omega), hF⟩

/-- greenscreen/attr.Modified -/
theorem c_attr_Modified {x : Int} {w : World} (hx : 0 ≤ x ∧ x ≤ 255) :
    Calls Try.prog 62 #[.int .u8 x] w fun e w' => e = .returned (.bool (decide (x % 2 = 1))) ∧ Upd no w w' := by
  refine F62.calls ?_
  unfold F62
  have hF : Upd no w w := Fr.refl _ _ _
  refine opv_run (and8_1 _ (by omega)) ?_
  refine opv_run (neI _ _ _ _ _) ?_
  first | exact ⟨retB (by omega), hF⟩ | exact ⟨retT (by omega), hF⟩ | exact ⟨retF (by omega), hF⟩

/-- greenscreen/attr.Shown -/
theorem c_attr_Shown {x : Int} {w : World} (hx : 0 ≤ x ∧ x ≤ 255) :
    Calls Try.prog 49 #[.int .u8 x] w fun e w' => e = .returned (.int .i64 (x / 4 % 4)) ∧ Upd no w w' := by
  refine F49.calls ?_
  unfold F49
  have hF : Upd no w w := Fr.refl _ _ _
  refine opv_run (and8_12 _ (by omega)) ?_
  first | refine opv_run (conv_i64 (by kernel_rfl) (by kernel_rfl) (by omega)) ?_ | refine opv_run (convII (k := .i64) (by kernel_rfl) (by kernel_rfl)) ?_
  refine opv_run (shr2 _ _) ?_
  exact ⟨retI (by omega), hF⟩

/-- greenscreen/attr.Modify -/
theorem c_attr_Modify_T {x : Int} {w : World} (hx : 0 ≤ x ∧ x ≤ 255) :
    Calls Try.prog 77 #[.int .u8 x, .bool true] w fun e w' => e = .returned (.int .u8 (x - x % 2 + 1)) ∧ Upd no w w' := by
  refine F77.calls ?_
  unfold F77
  have hF : Upd no w w := Fr.refl _ _ _
  refine condt ?_
  refine opv_run (or8_1 _ (by omega)) ?_
  exact ⟨rfl, hF⟩

/-- greenscreen/attr.Modify -/
theorem c_attr_Modify_F {x : Int} {w : World} (hx : 0 ≤ x ∧ x ≤ 255) :
    Calls Try.prog 77 #[.int .u8 x, .bool false] w fun e w' => e = .returned (.int .u8 (x - x % 2)) ∧ Upd no w w' := by
  refine F77.calls ?_
  unfold F77
  have hF : Upd no w w := Fr.refl _ _ _
  refine condf ?_
  refine opv_run (andNot8_1 _ (by omega)) ?_
  exact ⟨rfl, hF⟩

/-- greenscreen/greenscreenref11.Bit -/
theorem c_ref11_Bit {x : Int} {w : World} (hx : 0 ≤ x ∧ x ≤ 255) :
    Calls Try.prog 45 #[.int .u8 x, .int .i64 32] w fun e w' => e = .returned (.bool (decide (x / 32 % 2 = 1))) ∧ Upd no w w' := by
  refine F45.calls ?_
  unfold F45
  have hF : Upd no w w := Fr.refl _ _ _
  first | refine opv_run (conv_i64 (by kernel_rfl) (by kernel_rfl) (by omega)) ?_ | refine opv_run (convII (k := .i64) (by kernel_rfl) (by kernel_rfl)) ?_
  refine opv_run (quoN _ (by omega) (by omega) (by omega)) ?_
  refine opv_run (remN _ (by omega) (by omega) (by omega)) ?_
  refine opv_run (eqI _ _ _ _ _) ?_
  first | exact ⟨retB (by omega), hF⟩ | exact ⟨retT (by omega), hF⟩ | exact ⟨retF (by omega), hF⟩

/-- greenscreen/greenscreenref11.Shown -/
theorem c_ref11_Shown {x : Int} {w : World} (hx : 0 ≤ x ∧ x ≤ 255) :
    Calls Try.prog 53 #[.int .u8 x] w fun e w' => e = .returned (.int .i64 (x / 4 % 4)) ∧ Upd no w w' := by
  refine F53.calls ?_
  unfold F53
  have hF : Upd no w w := Fr.refl _ _ _
  first | refine opv_run (conv_i64 (by kernel_rfl) (by kernel_rfl) (by omega)) ?_ | refine opv_run (convII (k := .i64) (by kernel_rfl) (by kernel_rfl)) ?_
  refine opv_run (quoN _ (by omega) (by omega) (by omega)) ?_
  refine opv_run (remN _ (by omega) (by omega) (by omega)) ?_
  exact ⟨retI (by omega), hF⟩

/-- greenscreen/greenscreenref11.Modify -/
theorem c_ref11_Modify_T {x : Int} {w : World} (hx : 0 ≤ x ∧ x ≤ 255) :
    Calls Try.prog 58 #[.int .u8 x, .bool true] w fun e w' => e = .returned (.int .u8 (x - x % 2 + 1)) ∧ Upd no w w' := by
  refine F58.calls ?_
  unfold F58
  have hF : Upd no w w := Fr.refl _ _ _
  refine opv_run (rem_u8 _ (by omega) (by omega)) ?_
  first | refine opv_run (sub_u8 _ (by omega)) ?_ | refine opv_run (subI _ _ _ _) ?_
  refine join_cut (fun g w' => (g 0 = .int .u8 (x - x % 2 + 1)) ∧ (Upd no w w')) (fun J1 hJ1 => ?_) (fun gJ1 wJ1 hI => ?_)
  · refine condt ?_
    first | refine opv_run (add_u8 _ (by omega)) ?_ | refine opv_run (addI _ _ _ _) ?_
    refine hJ1 _ _ ?_
    exact ⟨rfl, hF⟩
  · obtain ⟨g0, hF⟩ := hI
    try rw [g0]
    exact ⟨rfl, hF⟩

/-- greenscreen/greenscreenref11.Modify -/
theorem c_ref11_Modify_F {x : Int} {w : World} (hx : 0 ≤ x ∧ x ≤ 255) :
    Calls Try.prog 58 #[.int .u8 x, .bool false] w fun e w' => e = .returned (.int .u8 (x - x % 2)) ∧ Upd no w w' := by
  refine F58.calls ?_
  unfold F58
  have hF : Upd no w w := Fr.refl _ _ _
  refine opv_run (rem_u8 _ (by omega) (by omega)) ?_
  first | refine opv_run (sub_u8 _ (by omega)) ?_ | refine opv_run (subI _ _ _ _) ?_
  refine join_cut (fun g w' => (g 0 = .int .u8 (x - x % 2)) ∧ (Upd no w w')) (fun J1 hJ1 => ?_) (fun gJ1 wJ1 hI => ?_)
  · refine condf ?_
    refine hJ1 _ _ ?_
    exact ⟨rfl, hF⟩
  · obtain ⟨g0, hF⟩ := hI
    try rw [g0]
    exact ⟨rfl, hF⟩

/-- greenscreen/field.look -/
theorem c_field_look_F {r c cur : Int} {A : Option Addr} {n cp bp B0 : Nat} {cs : List Gs.Cell} {w : World} (h_bp : w.heap[bp]? = some (.cells #[.int .i64 r, .int .i64 c, .slice A n cp, .int .i64 cur] 102 (0, 0))) (own_p : Own B0 w 45 5 (.slice A n cp) (rows Gs.cv cs)) (hn : n = cs.length) {i : Int} (hN : Gs.cellsN r c = n) (hb : n ≤ 4096) :
    Calls Try.prog 41 #[.pointer (some ⟨bp, 0, none⟩), .int .i64 i, .int .i64 1] w fun e w' => e = .returned (.int .i64 (Gs.lookM cs i 1)) ∧ Upd no w w' := by
  refine F41.calls ?_
  unfold F41
  subst hn
  have lt_h_bp := lt_get h_bp
  have lt_own_p := Own.lt own_p
  have hF : Upd no w w := Fr.refl _ _ _
  refine opv_dec (lss _ _ _ _) (fun h1 => ?_) (fun h1 => ?_)
  · refine gdtf ?_
    refine gdtf ?_
    refine gdtf ?_
    refine gdtf ?_
    refine pickt ?_
    refine condt ?_
    first | exact ⟨retI (Gs.look_out (by omega)).symm, hF⟩ | exact ⟨retI (Gs.look_none hno).symm, hF⟩ | exact ⟨retI (Gs.look_at (by omega) hno (by omega) (by assumption)).symm, hF⟩
  · refine gdff ?_
    refine gdff ?_
    refine gdff ?_
    refine callF_val (c_Plane_Len h_bp own_p rfl) (fun w3 U3 => ?_)
    replace own_p := own_p.upd0 U3
    replace h_bp := U3.get0 h_bp
    replace hF := hF.go0 U3
    refine gdff ?_
    refine opv_dec (geq _ _ _ _) (fun h4 => ?_) (fun h4 => ?_)
    · refine pickf ?_
      refine condt ?_
      first | exact ⟨retI (Gs.look_out (by omega)).symm, hF⟩ | exact ⟨retI (Gs.look_none hno).symm, hF⟩ | exact ⟨retI (Gs.look_at (by omega) hno (by omega) (by assumption)).symm, hF⟩
    · refine pickf ?_
      refine condf ?_
      refine join_cut (fun g w' => (Gs.noneB cs i 1 cs.length) ∧ (Upd no w w')) (fun J1 hJ1 => ?_) (fun gJ1 wJ1 hI => ?_)
      · refine callF_val (c_Plane_Len h_bp own_p rfl) (fun w6 U6 => ?_)
        replace own_p := own_p.upd0 U6
        replace h_bp := U6.get0 h_bp
        replace hF := hF.go0 U6
        refine loop_intro (fun g w' => ∃ (k : Nat), (g 19 = .int .i64 (k : Int)) ∧ (k ≤ cs.length) ∧ (Gs.noneB cs i 1 k) ∧ (w'.heap[bp]? = some (.cells #[.int .i64 r, .int .i64 c, .slice A cs.length cp, .int .i64 cur] 102 (0, 0))) ∧ (Own B0 w' 45 5 (.slice A cs.length cp) (rows Gs.cv cs)) ∧ (Upd no w w')) (fun g w' => cs.length - (RowKit.intOf (g 19)).toNat) ?_ (fun g2 wl2 hI => ?_)
        · exact ⟨0, (by first | exact g19 | rfl), Nat.zero_le _, (Gs.noneB_0 _ _ _), h_bp, own_p, hF⟩
        · obtain ⟨k, g19, hk, hno, h_bp, own_p, hF⟩ := hI
          try rw [g19]
          refine opv_dec (lss _ _ _ _) (fun h7 => ?_) (fun h7 => ?_)
          · refine condt ?_
            refine callF_val (c_Plane_Size h_bp own_p rfl) (fun w8 U8 => ?_)
            replace own_p := own_p.upd0 U8
            replace h_bp := U8.get0 h_bp
            replace hF := hF.go0 U8
            first | refine opv_run (mul_i64 _ (by omega)) ?_ | refine opv_run (mulI _ _ _ _) ?_
            refine callF_val (c_addr_Move (i := i) (j := (k : Int) * 1)) (fun w9 U9 => ?_)
            replace own_p := own_p.upd0 U9
            replace h_bp := U9.get0 h_bp
            replace hF := hF.go0 U9
            rw [hN, Gs.moveN_at (by omega)]
            refine callF_val (c_Plane_At h_bp own_p rfl (i := (i + (k : Int) * 1) % (cs.length : Int))) (fun w10 U10 => ?_)
            replace own_p := own_p.upd0 U10
            replace h_bp := U10.get0 h_bp
            replace hF := hF.go0 U10
            refine opv_b (field_one (off := 2) (by kernel_rfl) (by rfl)) (fun h11 => ?_) (fun h11 => ?_)
            · refine condt ?_
              first | exact ⟨retI (Gs.look_out (by omega)).symm, hF⟩ | exact ⟨retI (Gs.look_none hno).symm, hF⟩ | exact ⟨retI (Gs.look_at (by omega) hno (by omega) (by assumption)).symm, hF⟩
            · refine condf ?_
              first | refine opv_run (add_i64 _ (by omega)) ?_ | refine opv_run (addI _ _ _ _) ?_
              exact ⟨⟨k + 1, (by first | exact g19 | rfl), by omega, (Gs.noneB_step hno (by first | assumption | simp_all)), h_bp, own_p, hF⟩, cnt_lt (by first | rfl | exact g19) rfl (by omega)⟩
          · refine condf ?_
            refine hJ1 _ _ ?_
            exact ⟨(by rw [show cs.length = k by omega]; rw [show k = cs.length by omega] at hno ⊢; exact hno), hF⟩
      · obtain ⟨hno, hF⟩ := hI
        first | exact ⟨retI (Gs.look_out (by omega)).symm, hF⟩ | exact ⟨retI (Gs.look_none hno).symm, hF⟩ | exact ⟨retI (Gs.look_at (by omega) hno (by omega) (by assumption)).symm, hF⟩

/-- greenscreen/field.look -/
theorem c_field_look_B {r c cur : Int} {A : Option Addr} {n cp bp B0 : Nat} {cs : List Gs.Cell} {w : World} (h_bp : w.heap[bp]? = some (.cells #[.int .i64 r, .int .i64 c, .slice A n cp, .int .i64 cur] 102 (0, 0))) (own_p : Own B0 w 45 5 (.slice A n cp) (rows Gs.cv cs)) (hn : n = cs.length) {i : Int} (hN : Gs.cellsN r c = n) (hb : n ≤ 4096) :
    Calls Try.prog 41 #[.pointer (some ⟨bp, 0, none⟩), .int .i64 i, .int .i64 (-1)] w fun e w' => e = .returned (.int .i64 (Gs.lookM cs i (-1))) ∧ Upd no w w' := by
  refine F41.calls ?_
  unfold F41
  subst hn
  have lt_h_bp := lt_get h_bp
  have lt_own_p := Own.lt own_p
  have hF : Upd no w w := Fr.refl _ _ _
  refine opv_dec (lss _ _ _ _) (fun h1 => ?_) (fun h1 => ?_)
  · refine gdtf ?_
    refine gdtf ?_
    refine gdtf ?_
    refine gdtf ?_
    refine pickt ?_
    refine condt ?_
    first | exact ⟨retI (Gs.look_out (by omega)).symm, hF⟩ | exact ⟨retI (Gs.look_none hno).symm, hF⟩ | exact ⟨retI (Gs.look_at (by omega) hno (by omega) (by assumption)).symm, hF⟩
  · refine gdff ?_
    refine gdff ?_
    refine gdff ?_
    refine callF_val (c_Plane_Len h_bp own_p rfl) (fun w3 U3 => ?_)
    replace own_p := own_p.upd0 U3
    replace h_bp := U3.get0 h_bp
    replace hF := hF.go0 U3
    refine gdff ?_
    refine opv_dec (geq _ _ _ _) (fun h4 => ?_) (fun h4 => ?_)
    · refine pickf ?_
      refine condt ?_
      first | exact ⟨retI (Gs.look_out (by omega)).symm, hF⟩ | exact ⟨retI (Gs.look_none hno).symm, hF⟩ | exact ⟨retI (Gs.look_at (by omega) hno (by omega) (by assumption)).symm, hF⟩
    · refine pickf ?_
      refine condf ?_
      refine join_cut (fun g w' => (Gs.noneB cs i (-1) cs.length) ∧ (Upd no w w')) (fun J1 hJ1 => ?_) (fun gJ1 wJ1 hI => ?_)
      · refine callF_val (c_Plane_Len h_bp own_p rfl) (fun w6 U6 => ?_)
        replace own_p := own_p.upd0 U6
        replace h_bp := U6.get0 h_bp
        replace hF := hF.go0 U6
        refine loop_intro (fun g w' => ∃ (k : Nat), (g 19 = .int .i64 (k : Int)) ∧ (k ≤ cs.length) ∧ (Gs.noneB cs i (-1) k) ∧ (w'.heap[bp]? = some (.cells #[.int .i64 r, .int .i64 c, .slice A cs.length cp, .int .i64 cur] 102 (0, 0))) ∧ (Own B0 w' 45 5 (.slice A cs.length cp) (rows Gs.cv cs)) ∧ (Upd no w w')) (fun g w' => cs.length - (RowKit.intOf (g 19)).toNat) ?_ (fun g2 wl2 hI => ?_)
        · exact ⟨0, (by first | exact g19 | rfl), Nat.zero_le _, (Gs.noneB_0 _ _ _), h_bp, own_p, hF⟩
        · obtain ⟨k, g19, hk, hno, h_bp, own_p, hF⟩ := hI
          try rw [g19]
          refine opv_dec (lss _ _ _ _) (fun h7 => ?_) (fun h7 => ?_)
          · refine condt ?_
            refine callF_val (c_Plane_Size h_bp own_p rfl) (fun w8 U8 => ?_)
            replace own_p := own_p.upd0 U8
            replace h_bp := U8.get0 h_bp
            replace hF := hF.go0 U8
            first | refine opv_run (mul_i64 _ (by omega)) ?_ | refine opv_run (mulI _ _ _ _) ?_
            refine callF_val (c_addr_Move (i := i) (j := (k : Int) * (-1))) (fun w9 U9 => ?_)
            replace own_p := own_p.upd0 U9
            replace h_bp := U9.get0 h_bp
            replace hF := hF.go0 U9
            rw [hN, Gs.moveN_at (by omega)]
            refine callF_val (c_Plane_At h_bp own_p rfl (i := (i + (k : Int) * (-1)) % (cs.length : Int))) (fun w10 U10 => ?_)
            replace own_p := own_p.upd0 U10
            replace h_bp := U10.get0 h_bp
            replace hF := hF.go0 U10
            refine opv_b (field_one (off := 2) (by kernel_rfl) (by rfl)) (fun h11 => ?_) (fun h11 => ?_)
            · refine condt ?_
              first | exact ⟨retI (Gs.look_out (by omega)).symm, hF⟩ | exact ⟨retI (Gs.look_none hno).symm, hF⟩ | exact ⟨retI (Gs.look_at (by omega) hno (by omega) (by assumption)).symm, hF⟩
            · refine condf ?_
              first | refine opv_run (add_i64 _ (by omega)) ?_ | refine opv_run (addI _ _ _ _) ?_
              exact ⟨⟨k + 1, (by first | exact g19 | rfl), by omega, (Gs.noneB_step hno (by first | assumption | simp_all)), h_bp, own_p, hF⟩, cnt_lt (by first | rfl | exact g19) rfl (by omega)⟩
          · refine condf ?_
            refine hJ1 _ _ ?_
            exact ⟨(by rw [show cs.length = k by omega]; rw [show k = cs.length by omega] at hno ⊢; exact hno), hF⟩
      · obtain ⟨hno, hF⟩ := hI
        first | exact ⟨retI (Gs.look_out (by omega)).symm, hF⟩ | exact ⟨retI (Gs.look_none hno).symm, hF⟩ | exact ⟨retI (Gs.look_at (by omega) hno (by omega) (by assumption)).symm, hF⟩

/-- greenscreen/field.Before -/
theorem c_field_Before {r c cur : Int} {A : Option Addr} {n cp bp B0 : Nat} {cs : List Gs.Cell} {w : World} (h_bp : w.heap[bp]? = some (.cells #[.int .i64 r, .int .i64 c, .slice A n cp, .int .i64 cur] 102 (0, 0))) (own_p : Own B0 w 45 5 (.slice A n cp) (rows Gs.cv cs)) (hn : n = cs.length) {i : Int} (hN : Gs.cellsN r c = n) (hb : n ≤ 4096) :
    Calls Try.prog 24 #[.pointer (some ⟨bp, 0, none⟩), .int .i64 i] w fun e w' => e = .returned (.int .i64 (Gs.befM cs i)) ∧ Upd no w w' := by
  refine F24.calls ?_
  unfold F24
  have lt_h_bp := lt_get h_bp
  have lt_own_p := Own.lt own_p
  have hF : Upd no w w := Fr.refl _ _ _
  refine callF_val (c_field_look_B h_bp own_p hn hN hb (i := i)) (fun w1 U1 => ?_)
  replace own_p := own_p.upd0 U1
  replace h_bp := U1.get0 h_bp
  replace hF := hF.go0 U1
  exact ⟨rfl, hF⟩

/-- greenscreen/field.After -/
theorem c_field_After {r c cur : Int} {A : Option Addr} {n cp bp B0 : Nat} {cs : List Gs.Cell} {w : World} (h_bp : w.heap[bp]? = some (.cells #[.int .i64 r, .int .i64 c, .slice A n cp, .int .i64 cur] 102 (0, 0))) (own_p : Own B0 w 45 5 (.slice A n cp) (rows Gs.cv cs)) (hn : n = cs.length) {i : Int} (hN : Gs.cellsN r c = n) (hb : n ≤ 4096) :
    Calls Try.prog 25 #[.pointer (some ⟨bp, 0, none⟩), .int .i64 i] w fun e w' => e = .returned (.int .i64 (Gs.aftM cs i)) ∧ Upd no w w' := by
  refine F25.calls ?_
  unfold F25
  subst hn
  have lt_h_bp := lt_get h_bp
  have lt_own_p := Own.lt own_p
  have hF : Upd no w w := Fr.refl _ _ _
  refine opv_dec (lss _ _ _ _) (fun h1 => ?_) (fun h1 => ?_)
  · refine gdtf ?_
    refine gdtf ?_
    refine gdtf ?_
    refine gdtf ?_
    refine pickt ?_
    refine condt ?_
    first | exact ⟨retI (Gs.aft_out (by omega)).symm, hF⟩ | exact ⟨retI (Gs.aft_in (by omega)).symm, hF⟩
  · refine gdff ?_
    refine gdff ?_
    refine gdff ?_
    refine callF_val (c_Plane_Len h_bp own_p rfl) (fun w3 U3 => ?_)
    replace own_p := own_p.upd0 U3
    replace h_bp := U3.get0 h_bp
    replace hF := hF.go0 U3
    refine gdff ?_
    refine opv_dec (geq _ _ _ _) (fun h4 => ?_) (fun h4 => ?_)
    · refine pickf ?_
      refine condt ?_
      first | exact ⟨retI (Gs.aft_out (by omega)).symm, hF⟩ | exact ⟨retI (Gs.aft_in (by omega)).symm, hF⟩
    · refine pickf ?_
      refine condf ?_
      refine callF_val (c_Plane_Size h_bp own_p rfl) (fun w6 U6 => ?_)
      replace own_p := own_p.upd0 U6
      replace h_bp := U6.get0 h_bp
      replace hF := hF.go0 U6
      refine callF_val (c_addr_Move (i := i) (j := 1)) (fun w7 U7 => ?_)
      replace own_p := own_p.upd0 U7
      replace h_bp := U7.get0 h_bp
      replace hF := hF.go0 U7
      rw [hN, Gs.moveN_at (by omega)]
      refine callF_val (c_field_look_F h_bp own_p rfl hN hb (i := (i + 1) % (cs.length : Int))) (fun w8 U8 => ?_)
      replace own_p := own_p.upd0 U8
      replace h_bp := U8.get0 h_bp
      replace hF := hF.go0 U8
      first | exact ⟨retI (Gs.aft_out (by omega)).symm, hF⟩ | exact ⟨retI (Gs.aft_in (by omega)).symm, hF⟩

/-- greenscreen/field.Formatted -/
theorem c_field_Formatted {r c cur : Int} {A : Option Addr} {n cp bp B0 : Nat} {cs : List Gs.Cell} {w : World} (h_bp : w.heap[bp]? = some (.cells #[.int .i64 r, .int .i64 c, .slice A n cp, .int .i64 cur] 102 (0, 0))) (own_p : Own B0 w 45 5 (.slice A n cp) (rows Gs.cv cs)) (hn : n = cs.length) (hN : Gs.cellsN r c = n) (hb : n ≤ 4096) :
    Calls Try.prog 12 #[.pointer (some ⟨bp, 0, none⟩)] w fun e w' => e = .returned (.bool (decide (0 ≤ Gs.lookM cs 0 1))) ∧ Upd no w w' := by
  refine F12.calls ?_
  unfold F12
  have lt_h_bp := lt_get h_bp
  have lt_own_p := Own.lt own_p
  have hF : Upd no w w := Fr.refl _ _ _
  refine callF_val (c_field_look_F h_bp own_p hn hN hb (i := 0)) (fun w1 U1 => ?_)
  replace own_p := own_p.upd0 U1
  replace h_bp := U1.get0 h_bp
  replace hF := hF.go0 U1
  refine opv_run (geq _ _ _ _) ?_
  first | exact ⟨retB (by omega), hF⟩ | exact ⟨retT (by omega), hF⟩ | exact ⟨retF (by omega), hF⟩

/-- greenscreen/field.at -/
theorem c_field_at {r c cur : Int} {A : Option Addr} {n cp bp B0 : Nat} {cs : List Gs.Cell} {w : World} (h_bp : w.heap[bp]? = some (.cells #[.int .i64 r, .int .i64 c, .slice A n cp, .int .i64 cur] 102 (0, 0))) (own_p : Own B0 w 45 5 (.slice A n cp) (rows Gs.cv cs)) (hn : n = cs.length) {i : Int} (hN : Gs.cellsN r c = n) (hb : n ≤ 4096)(hcw : Gs.Cws cs) (hi : 0 ≤ i ∧ i < cs.length) :
    Calls Try.prog 55 #[.pointer (some ⟨bp, 0, none⟩), .int .i64 i] w fun e w' => e = .returned (.agg (Gs.fv (Gs.atM cs i)).toArray) ∧ Upd no w w' := by
  refine F55.calls ?_
  unfold F55
  subst hn
  have hab := Gs.aft_bd hi
  have hgw := Gs.getC_w hcw i
  have lt_h_bp := lt_get h_bp
  have lt_own_p := Own.lt own_p
  have hF : Upd no w w := Fr.refl _ _ _
  refine alloc_intro (cs := (Gs.fv Gs.zf).toArray) (by kernel_rfl) (fun b1 w1 e1 h_b1 _ U1 => ?_)
  have ne_bp_b1 : bp ≠ b1 := by have := lt_get h_bp; omega
  have na_own_p_b1 := own_p.apart e1
  have ge_b1 : w.heap.size ≤ b1 := by have := hF.size; omega
  replace own_p := own_p.upd0 U1
  replace h_bp := U1.get0 h_bp
  replace hF := hF.go0 U1
  clear e1
  refine callF_val (c_field_After h_bp own_p rfl hN hb (i := i)) (fun w2 U2 => ?_)
  replace own_p := own_p.upd0 U2
  replace h_bp := U2.get0 h_bp
  replace h_b1 := U2.get0 h_b1
  replace hF := hF.go0 U2
  first | refine opv_run (sub_i64 _ (by omega)) ?_ | refine opv_run (subI _ _ _ _) ?_
  first | refine opv_run (sub_i64 _ (by omega)) ?_ | refine opv_run (subI _ _ _ _) ?_
  refine join_cut (fun g w' => (g 5 = .int .i64 (Gs.lenM cs i)) ∧ (w'.heap[bp]? = some (.cells #[.int .i64 r, .int .i64 c, .slice A cs.length cp, .int .i64 cur] 102 (0, 0))) ∧ (Own B0 w' 45 5 (.slice A cs.length cp) (rows Gs.cv cs)) ∧ (w'.heap[b1]? = some (.cells (Gs.fv Gs.zf).toArray 39 (0, 0))) ∧ (Upd no w w')) (fun J1 hJ1 => ?_) (fun gJ1 wJ1 hI => ?_)
  · refine opv_dec (lss _ _ _ _) (fun h3 => ?_) (fun h3 => ?_)
    · refine condt ?_
      refine callF_val (c_Plane_Len h_bp own_p rfl) (fun w4 U4 => ?_)
      replace own_p := own_p.upd0 U4
      replace h_bp := U4.get0 h_bp
      replace h_b1 := U4.get0 h_b1
      replace hF := hF.go0 U4
      first | refine opv_run (add_i64 _ (by omega)) ?_ | refine opv_run (addI _ _ _ _) ?_
      refine hJ1 _ _ ?_
      exact ⟨(by first | exact congrArg (Value.int .i64) (Gs.len_lt (by assumption)) | exact congrArg (Value.int .i64) (Gs.len_ge (by assumption))), h_bp, own_p, h_b1, hF⟩
    · refine condf ?_
      refine hJ1 _ _ ?_
      exact ⟨(by first | exact congrArg (Value.int .i64) (Gs.len_lt (by assumption)) | exact congrArg (Value.int .i64) (Gs.len_ge (by assumption))), h_bp, own_p, h_b1, hF⟩
  · obtain ⟨g5, h_bp, own_p, h_b1, hF⟩ := hI
    try rw [g5]
    refine callF_val (c_Plane_At h_bp own_p rfl (i := i)) (fun w5 U5 => ?_)
    replace own_p := own_p.upd0 U5
    replace h_bp := U5.get0 h_bp
    replace h_b1 := U5.get0 h_b1
    replace hF := hF.go0 U5
    refine opv_run (field_one (off := 0) (by kernel_rfl) (by rfl)) ?_
    refine opv_run (and8_63 _ (by omega)) ?_
    refine opv_run (build_eq (l := [(0, 1), (1, 1), (2, 1)]) (z := #[.int .i64 0, .int .i64 0, .int .u8 0]) (by kernel_rfl) (by first | (simp [fillL, splice, repL, Value.cells, Gs.cv, Gs.fv]; done) | (simp [fillL, splice, repL, Value.cells, Gs.cv, Gs.fv]; rfl))) ?_
    refine store_intro (n := 3) (by kernel_rfl) (by rfl) (by first | rfl | (simp [Value.cells, Value.oneCell', Gs.cv, Gs.fv]; done)) h_b1 (by first | exact Nat.le_of_ble_eq_true rfl | (simp; done) | omega) (by first | (simp; rfl) | rfl) (fun w6 N6 _ U6 => ?_)
    replace own_p := own_p.upd1 U6 na_own_p_b1
    replace h_bp := U6.get1 h_bp ne_bp_b1
    replace h_b1 := N6
    replace hF := hF.go1 U6 ge_b1
    refine ldv_run (ldA (n := 3) (by kernel_rfl) h_b1 (by first | exact Nat.le_of_ble_eq_true rfl | simp | omega) (by rfl)) ?_
    exact ⟨rfl, hF⟩

/-- greenscreen/field.Of -/
theorem c_field_Of {r c cur : Int} {A : Option Addr} {n cp bp B0 : Nat} {cs : List Gs.Cell} {w : World} (h_bp : w.heap[bp]? = some (.cells #[.int .i64 r, .int .i64 c, .slice A n cp, .int .i64 cur] 102 (0, 0))) (own_p : Own B0 w 45 5 (.slice A n cp) (rows Gs.cv cs)) (hn : n = cs.length) {i : Int} (hN : Gs.cellsN r c = n) (hb : n ≤ 4096)(hcw : Gs.Cws cs)  :
    Calls Try.prog 22 #[.pointer (some ⟨bp, 0, none⟩), .int .i64 i] w fun e w' => e = .returned (.tuple #[.agg (Gs.fv (Gs.ofM cs i)).toArray, .bool (Gs.ofB cs i)]) ∧ Upd no w w' := by
  refine F22.calls ?_
  unfold F22
  subst hn
  have lt_h_bp := lt_get h_bp
  have lt_own_p := Own.lt own_p
  have hF : Upd no w w := Fr.refl _ _ _
  refine alloc_intro (cs := (Gs.fv Gs.zf).toArray) (by kernel_rfl) (fun b1 w1 e1 h_b1 _ U1 => ?_)
  have ne_bp_b1 : bp ≠ b1 := by have := lt_get h_bp; omega
  have na_own_p_b1 := own_p.apart e1
  have ge_b1 : w.heap.size ≤ b1 := by have := hF.size; omega
  replace own_p := own_p.upd0 U1
  replace h_bp := U1.get0 h_bp
  replace hF := hF.go0 U1
  clear e1
  refine callF_val (c_field_Before h_bp own_p rfl hN hb (i := i)) (fun w2 U2 => ?_)
  replace own_p := own_p.upd0 U2
  replace h_bp := U2.get0 h_bp
  replace h_b1 := U2.get0 h_b1
  replace hF := hF.go0 U2
  refine opv_dec (lss _ _ _ _) (fun h3 => ?_) (fun h3 => ?_)
  · refine condt ?_
    refine opv_run (build_eq (l := [(0, 1), (1, 1), (2, 1)]) (z := #[.int .i64 0, .int .i64 0, .int .u8 0]) (cs := (Gs.fv Gs.zf)) (by kernel_rfl) (by rfl)) ?_
    refine store_intro (n := 3) (cs' := (Gs.fv Gs.zf).toArray) (by kernel_rfl) (by rfl) (by first | rfl | (simp [Value.cells, Value.oneCell', Gs.cv, Gs.fv]; done)) h_b1 (by first | exact Nat.le_of_ble_eq_true rfl | (simp; done) | omega) (by rfl) (fun w4 N4 _ U4 => ?_)
    replace own_p := own_p.upd1 U4 na_own_p_b1
    replace h_bp := U4.get1 h_bp ne_bp_b1
    replace h_b1 := N4
    replace hF := hF.go1 U4 ge_b1
    refine ldv_run (ldA (n := 3) (by kernel_rfl) h_b1 (by first | exact Nat.le_of_ble_eq_true rfl | simp | omega) (by rfl)) ?_
    first | exact ⟨Gs.of_yes (by assumption), hF⟩ | exact ⟨Gs.of_not (by assumption), hF⟩
  · refine condf ?_
    refine callF_val (c_field_at h_bp own_p rfl hN hb hcw (i := Gs.befM cs i) (Gs.bef_rng (by assumption))) (fun w6 U6 => ?_)
    replace own_p := own_p.upd0 U6
    replace h_bp := U6.get0 h_bp
    replace h_b1 := U6.get0 h_b1
    replace hF := hF.go0 U6
    refine store_intro (n := 3) (cs' := (Gs.fv (Gs.atM cs (Gs.befM cs i))).toArray) (by kernel_rfl) (by rfl) (by first | rfl | (simp [Value.cells, Value.oneCell', Gs.cv, Gs.fv]; done)) h_b1 (by first | exact Nat.le_of_ble_eq_true rfl | (simp; done) | omega) (by rfl) (fun w7 N7 _ U7 => ?_)
    replace own_p := own_p.upd1 U7 na_own_p_b1
    replace h_bp := U7.get1 h_bp ne_bp_b1
    replace h_b1 := N7
    replace hF := hF.go1 U7 ge_b1
    refine ldv_run (ldA (n := 3) (by kernel_rfl) h_b1 (by first | exact Nat.le_of_ble_eq_true rfl | simp | omega) (by rfl)) ?_
    first | exact ⟨Gs.of_yes (by assumption), hF⟩ | exact ⟨Gs.of_not (by assumption), hF⟩

/-- greenscreen/field.Open -/
theorem c_field_Open {r c cur : Int} {A : Option Addr} {n cp bp B0 : Nat} {cs : List Gs.Cell} {w : World} (h_bp : w.heap[bp]? = some (.cells #[.int .i64 r, .int .i64 c, .slice A n cp, .int .i64 cur] 102 (0, 0))) (own_p : Own B0 w 45 5 (.slice A n cp) (rows Gs.cv cs)) (hn : n = cs.length) {i : Int} (hN : Gs.cellsN r c = n) (hb : n ≤ 4096)(hcw : Gs.Cws cs)  :
    Calls Try.prog 27 #[.pointer (some ⟨bp, 0, none⟩), .int .i64 i] w fun e w' => e = .returned (.bool (Gs.openM cs i)) ∧ Upd no w w' := by
  refine F27.calls ?_
  unfold F27
  subst hn
  have lt_h_bp := lt_get h_bp
  have lt_own_p := Own.lt own_p
  have hF : Upd no w w := Fr.refl _ _ _
  refine callF_val (c_field_Of h_bp own_p rfl hN hb hcw (i := i)) (fun w1 U1 => ?_)
  replace own_p := own_p.upd0 U1
  replace h_bp := U1.get0 h_bp
  replace hF := hF.go0 U1
  refine opv_run (ext_t (by rfl)) ?_
  refine opv_run (ext_t (by rfl)) ?_
  refine alloc_intro (cs := (Gs.fv Gs.zf).toArray) (by kernel_rfl) (fun b2 w2 e2 h_b2 _ U2 => ?_)
  have ne_bp_b2 : bp ≠ b2 := by have := lt_get h_bp; omega
  have na_own_p_b2 := own_p.apart e2
  have ge_b2 : w.heap.size ≤ b2 := by have := hF.size; omega
  replace own_p := own_p.upd0 U2
  replace h_bp := U2.get0 h_bp
  replace hF := hF.go0 U2
  clear e2
  refine store_intro (n := 3) (cs' := (Gs.fv (Gs.ofM cs i)).toArray) (by kernel_rfl) (by rfl) (by first | rfl | (simp [Value.cells, Value.oneCell', Gs.cv, Gs.fv]; done)) h_b2 (by first | exact Nat.le_of_ble_eq_true rfl | (simp; done) | omega) (by rfl) (fun w3 N3 _ U3 => ?_)
  replace own_p := own_p.upd1 U3 na_own_p_b2
  replace h_bp := U3.get1 h_bp ne_bp_b2
  replace h_b2 := N3
  replace hF := hF.go1 U3 ge_b2
  refine opv_run (notB _) ?_
  refine cond_intro (fun h4 => ?_) (fun h4 => ?_)
  · try simp only [decide_eq_true_eq, decide_eq_false_iff_not] at h4
    refine opv_dec (geq _ _ _ _) (fun h5 => ?_) (fun h5 => ?_)
    · refine gdtt ?_
      refine gdtt ?_
      refine gdtt ?_
      refine callF_val (c_Plane_Len h_bp own_p rfl) (fun w6 U6 => ?_)
      replace own_p := own_p.upd0 U6
      replace h_bp := U6.get0 h_bp
      replace h_b2 := U6.get0 h_b2
      replace hF := hF.go0 U6
      refine gdtt ?_
      refine opv_run (lss _ _ _ _) ?_
      refine pickt ?_
      have hob : Gs.ofB cs i = false ∨ Gs.ofB cs i = true := by cases Gs.ofB cs i <;> simp
      first | (rw [Gs.open_no (by simp_all)]; first | exact ⟨retB (by omega), hF⟩ | exact ⟨retT (by omega), hF⟩ | exact ⟨retF (by omega), hF⟩) | (rw [Gs.open_yes (by simp_all) (by assumption)]; exact ⟨rfl, hF⟩) | (rw [Gs.open_self (by simp_all) (by assumption)]; exact ⟨rfl, hF⟩)
    · refine gdft ?_
      refine gdft ?_
      refine gdft ?_
      refine gdft ?_
      refine pickf ?_
      have hob : Gs.ofB cs i = false ∨ Gs.ofB cs i = true := by cases Gs.ofB cs i <;> simp
      first | (rw [Gs.open_no (by simp_all)]; first | exact ⟨retB (by omega), hF⟩ | exact ⟨retT (by omega), hF⟩ | exact ⟨retF (by omega), hF⟩) | (rw [Gs.open_yes (by simp_all) (by assumption)]; exact ⟨rfl, hF⟩) | (rw [Gs.open_self (by simp_all) (by assumption)]; exact ⟨rfl, hF⟩)
  · try simp only [decide_eq_true_eq, decide_eq_false_iff_not] at h4
    refine opv_run (fieldAt_eq (off := 0) (by kernel_rfl)) ?_
    refine opv_run (ldC (by kernel_rfl) h_b2 (by rfl)) ?_
    refine opv_dec (neI _ _ _ _ _) (fun h9 => ?_) (fun h9 => ?_)
    · refine gdtt ?_
      refine opv_run (fieldAt_eq (off := 2) (by kernel_rfl)) ?_
      refine gdtt ?_
      refine opv_run (ldC (by kernel_rfl) h_b2 (by rfl)) ?_
      refine gdtt ?_
      refine callF_val (c_attr_Protected (Gs.of_a hcw i)) (fun w10 U10 => ?_)
      replace own_p := own_p.upd0 U10
      replace h_bp := U10.get0 h_bp
      replace h_b2 := U10.get0 h_b2
      replace hF := hF.go0 U10
      refine gdtt ?_
      refine opv_run (notB _) ?_
      refine pickt ?_
      have hob : Gs.ofB cs i = false ∨ Gs.ofB cs i = true := by cases Gs.ofB cs i <;> simp
      first | (rw [Gs.open_no (by simp_all)]; first | exact ⟨retB (by omega), hF⟩ | exact ⟨retT (by omega), hF⟩ | exact ⟨retF (by omega), hF⟩) | (rw [Gs.open_yes (by simp_all) (by assumption)]; exact ⟨rfl, hF⟩) | (rw [Gs.open_self (by simp_all) (by assumption)]; exact ⟨rfl, hF⟩)
    · refine gdft ?_
      refine gdft ?_
      refine gdft ?_
      refine gdft ?_
      refine pickf ?_
      have hob : Gs.ofB cs i = false ∨ Gs.ofB cs i = true := by cases Gs.ofB cs i <;> simp
      first | (rw [Gs.open_no (by simp_all)]; first | exact ⟨retB (by omega), hF⟩ | exact ⟨retT (by omega), hF⟩ | exact ⟨retF (by omega), hF⟩) | (rw [Gs.open_yes (by simp_all) (by assumption)]; exact ⟨rfl, hF⟩) | (rw [Gs.open_self (by simp_all) (by assumption)]; exact ⟨rfl, hF⟩)

/-- greenscreen/field.modify -/
theorem c_field_modify_T {r c cur : Int} {A : Option Addr} {n cp bp B0 : Nat} {cs : List Gs.Cell} {w : World} (h_bp : w.heap[bp]? = some (.cells #[.int .i64 r, .int .i64 c, .slice A n cp, .int .i64 cur] 102 (0, 0))) (own_p : Own B0 w 45 5 (.slice A n cp) (rows Gs.cv cs)) (hn : n = cs.length) {i : Int} (hN : Gs.cellsN r c = n) (hb : n ≤ 4096)(hcw : Gs.Cws cs) (hi : 0 ≤ i ∧ i < cs.length) :
    Calls Try.prog 60 #[.pointer (some ⟨bp, 0, none⟩), .int .i64 i, .bool true] w fun e w' => ∃ v, e = .returned v ∧ Own B0 w' 45 5 (.slice A n cp) (rows Gs.cv (Gs.modC true cs i)) ∧ Upd (ownS (.slice A n cp)) w w' := by
  refine F60.calls ?_
  unfold F60
  have hgw := Gs.getC_w hcw i
  have lt_h_bp := lt_get h_bp
  have lt_own_p := Own.lt own_p
  have hF : Upd (ownS (.slice A n cp)) w w := Fr.refl _ _ _
  refine callF_val (c_Plane_At h_bp own_p hn (i := i)) (fun w1 U1 => ?_)
  replace own_p := own_p.upd0 U1
  replace h_bp := U1.get0 h_bp
  replace hF := hF.go0 U1
  refine alloc_intro (cs := (Gs.cv Gs.zc).toArray) (by kernel_rfl) (fun b2 w2 e2 h_b2 _ U2 => ?_)
  have ne_bp_b2 : bp ≠ b2 := by have := lt_get h_bp; omega
  have na_own_p_b2 := own_p.apart e2
  have ge_b2 : w.heap.size ≤ b2 := by have := hF.size; omega
  replace own_p := own_p.upd0 U2
  replace h_bp := U2.get0 h_bp
  replace hF := hF.go0 U2
  clear e2
  refine store_intro (n := 5) (cs' := (Gs.cv (Gs.getC cs i)).toArray) (by kernel_rfl) (by rfl) (by first | rfl | (simp [Value.cells, Value.oneCell', Gs.cv, Gs.fv]; done)) h_b2 (by first | exact Nat.le_of_ble_eq_true rfl | (simp; done) | omega) (by rfl) (fun w3 N3 _ U3 => ?_)
  replace own_p := own_p.upd1 U3 na_own_p_b2
  replace h_bp := U3.get1 h_bp ne_bp_b2
  replace h_b2 := N3
  replace hF := hF.go1 U3 ge_b2
  refine opv_run (fieldAt_eq (off := 0) (by kernel_rfl)) ?_
  refine opv_run (ldC (by kernel_rfl) h_b2 (by rfl)) ?_
  refine callF_val (c_attr_Modify_T hgw) (fun w4 U4 => ?_)
  replace own_p := own_p.upd0 U4
  replace h_bp := U4.get0 h_bp
  replace h_b2 := U4.get0 h_b2
  replace hF := hF.go0 U4
  refine opv_run (fieldAt_eq (off := 0) (by kernel_rfl)) ?_
  refine store1_intro (by kernel_rfl) rfl rfl h_b2 (by first | exact Nat.le_of_ble_eq_true rfl | (simp; done) | omega | (simp [vals_length, *]; done) | (simp [vals_length, *]; omega)) (by first | (simp [vals_set]; rfl) | rfl) (fun w5 N5 _ U5 => ?_)
  replace own_p := own_p.upd1 U5 na_own_p_b2
  replace h_bp := U5.get1 h_bp ne_bp_b2
  replace h_b2 := N5
  replace hF := hF.go1 U5 ge_b2
  refine opv_run (ldA (n := 5) (by kernel_rfl) h_b2 (by first | exact Nat.le_of_ble_eq_true rfl | (simp; done) | omega) (by rfl)) ?_
  refine callF_ex (c_Plane_Set h_bp own_p hn (i := i) (x := Gs.modX true (Gs.getC cs i))) (fun v6 w6 D6 => ?_)
  obtain ⟨rfl, N6, U6⟩ := D6
  have own_p_o := own_p
  replace h_bp := U6.get h_bp (fun h => by first | (have := Own.ge own_p_o h; omega) | exact Own.ne_blk own_p_o h_bp (by decide) _ h rfl | exact Own.not_loop own_p_o h_bp (by assumption) _ h rfl | exact Own.not_def own_p_o h_bp _ h rfl | simp_all)
  replace own_p := N6
  replace h_b2 := U6.get h_b2 (fun h => na_own_p_b2 _ h rfl)
  replace hF := hF.go U6 (fun i h hs => by first | exact hs | exact .inl hs | exact .inr hs | (have := (Own.ge own_p_o hs).1; omega))
  clear own_p_o
  exact ⟨_, rfl, own_p, hF⟩

/-- greenscreen/field.modify -/
theorem c_field_modify_F {r c cur : Int} {A : Option Addr} {n cp bp B0 : Nat} {cs : List Gs.Cell} {w : World} (h_bp : w.heap[bp]? = some (.cells #[.int .i64 r, .int .i64 c, .slice A n cp, .int .i64 cur] 102 (0, 0))) (own_p : Own B0 w 45 5 (.slice A n cp) (rows Gs.cv cs)) (hn : n = cs.length) {i : Int} (hN : Gs.cellsN r c = n) (hb : n ≤ 4096)(hcw : Gs.Cws cs) (hi : 0 ≤ i ∧ i < cs.length) :
    Calls Try.prog 60 #[.pointer (some ⟨bp, 0, none⟩), .int .i64 i, .bool false] w fun e w' => ∃ v, e = .returned v ∧ Own B0 w' 45 5 (.slice A n cp) (rows Gs.cv (Gs.modC false cs i)) ∧ Upd (ownS (.slice A n cp)) w w' := by
  refine F60.calls ?_
  unfold F60
  have hgw := Gs.getC_w hcw i
  have lt_h_bp := lt_get h_bp
  have lt_own_p := Own.lt own_p
  have hF : Upd (ownS (.slice A n cp)) w w := Fr.refl _ _ _
  refine callF_val (c_Plane_At h_bp own_p hn (i := i)) (fun w1 U1 => ?_)
  replace own_p := own_p.upd0 U1
  replace h_bp := U1.get0 h_bp
  replace hF := hF.go0 U1
  refine alloc_intro (cs := (Gs.cv Gs.zc).toArray) (by kernel_rfl) (fun b2 w2 e2 h_b2 _ U2 => ?_)
  have ne_bp_b2 : bp ≠ b2 := by have := lt_get h_bp; omega
  have na_own_p_b2 := own_p.apart e2
  have ge_b2 : w.heap.size ≤ b2 := by have := hF.size; omega
  replace own_p := own_p.upd0 U2
  replace h_bp := U2.get0 h_bp
  replace hF := hF.go0 U2
  clear e2
  refine store_intro (n := 5) (cs' := (Gs.cv (Gs.getC cs i)).toArray) (by kernel_rfl) (by rfl) (by first | rfl | (simp [Value.cells, Value.oneCell', Gs.cv, Gs.fv]; done)) h_b2 (by first | exact Nat.le_of_ble_eq_true rfl | (simp; done) | omega) (by rfl) (fun w3 N3 _ U3 => ?_)
  replace own_p := own_p.upd1 U3 na_own_p_b2
  replace h_bp := U3.get1 h_bp ne_bp_b2
  replace h_b2 := N3
  replace hF := hF.go1 U3 ge_b2
  refine opv_run (fieldAt_eq (off := 0) (by kernel_rfl)) ?_
  refine opv_run (ldC (by kernel_rfl) h_b2 (by rfl)) ?_
  refine callF_val (c_attr_Modify_F hgw) (fun w4 U4 => ?_)
  replace own_p := own_p.upd0 U4
  replace h_bp := U4.get0 h_bp
  replace h_b2 := U4.get0 h_b2
  replace hF := hF.go0 U4
  refine opv_run (fieldAt_eq (off := 0) (by kernel_rfl)) ?_
  refine store1_intro (by kernel_rfl) rfl rfl h_b2 (by first | exact Nat.le_of_ble_eq_true rfl | (simp; done) | omega | (simp [vals_length, *]; done) | (simp [vals_length, *]; omega)) (by first | (simp [vals_set]; rfl) | rfl) (fun w5 N5 _ U5 => ?_)
  replace own_p := own_p.upd1 U5 na_own_p_b2
  replace h_bp := U5.get1 h_bp ne_bp_b2
  replace h_b2 := N5
  replace hF := hF.go1 U5 ge_b2
  refine opv_run (ldA (n := 5) (by kernel_rfl) h_b2 (by first | exact Nat.le_of_ble_eq_true rfl | (simp; done) | omega) (by rfl)) ?_
  refine callF_ex (c_Plane_Set h_bp own_p hn (i := i) (x := Gs.modX false (Gs.getC cs i))) (fun v6 w6 D6 => ?_)
  obtain ⟨rfl, N6, U6⟩ := D6
  have own_p_o := own_p
  replace h_bp := U6.get h_bp (fun h => by first | (have := Own.ge own_p_o h; omega) | exact Own.ne_blk own_p_o h_bp (by decide) _ h rfl | exact Own.not_loop own_p_o h_bp (by assumption) _ h rfl | exact Own.not_def own_p_o h_bp _ h rfl | simp_all)
  replace own_p := N6
  replace h_b2 := U6.get h_b2 (fun h => na_own_p_b2 _ h rfl)
  replace hF := hF.go U6 (fun i h hs => by first | exact hs | exact .inl hs | exact .inr hs | (have := (Own.ge own_p_o hs).1; omega))
  clear own_p_o
  exact ⟨_, rfl, own_p, hF⟩

/-- greenscreen/field.Mark -/
theorem c_field_Mark {r c cur : Int} {A : Option Addr} {n cp bp B0 : Nat} {cs : List Gs.Cell} {w : World} (h_bp : w.heap[bp]? = some (.cells #[.int .i64 r, .int .i64 c, .slice A n cp, .int .i64 cur] 102 (0, 0))) (own_p : Own B0 w 45 5 (.slice A n cp) (rows Gs.cv cs)) (hn : n = cs.length) {i : Int} (hN : Gs.cellsN r c = n) (hb : n ≤ 4096)(hcw : Gs.Cws cs)  :
    Calls Try.prog 33 #[.pointer (some ⟨bp, 0, none⟩), .int .i64 i] w fun e w' => ∃ v, e = .returned v ∧ v = .bool (decide (¬ Gs.befM cs i < 0)) ∧ Own B0 w' 45 5 (.slice A n cp) (rows Gs.cv (Gs.markC cs i)) ∧ Upd (ownS (.slice A n cp)) w w' := by
  refine F33.calls ?_
  unfold F33
  have lt_h_bp := lt_get h_bp
  have lt_own_p := Own.lt own_p
  have hF : Upd (ownS (.slice A n cp)) w w := Fr.refl _ _ _
  refine callF_val (c_field_Before h_bp own_p hn hN hb (i := i)) (fun w1 U1 => ?_)
  replace own_p := own_p.upd0 U1
  replace h_bp := U1.get0 h_bp
  replace hF := hF.go0 U1
  refine opv_dec (lss _ _ _ _) (fun h2 => ?_) (fun h2 => ?_)
  · refine condt ?_
    first | exact ⟨_, rfl, by rw [decide_eq_true (by assumption)], by rw [Gs.mark_yes (by assumption)]; exact own_p, hF⟩ | exact ⟨_, rfl, by rw [decide_eq_false (by omega)], by rw [Gs.mark_no (by assumption)]; exact own_p, hF⟩
  · refine condf ?_
    refine callF_ex (c_field_modify_T h_bp own_p hn hN hb hcw (i := Gs.befM cs i) (Gs.bef_rng (by assumption))) (fun v4 w4 D4 => ?_)
    obtain ⟨N4, U4⟩ := D4
    have own_p_o := own_p
    replace h_bp := U4.get h_bp (fun h => by first | (have := Own.ge own_p_o h; omega) | exact Own.ne_blk own_p_o h_bp (by decide) _ h rfl | exact Own.not_loop own_p_o h_bp (by assumption) _ h rfl | exact Own.not_def own_p_o h_bp _ h rfl | simp_all)
    replace own_p := N4
    replace hF := hF.go U4 (fun i h hs => by first | exact hs | exact .inl hs | exact .inr hs | (have := (Own.ge own_p_o hs).1; omega))
    clear own_p_o
    first | exact ⟨_, rfl, by rw [decide_eq_true (by assumption)], by rw [Gs.mark_yes (by assumption)]; exact own_p, hF⟩ | exact ⟨_, rfl, by rw [decide_eq_false (by omega)], by rw [Gs.mark_no (by assumption)]; exact own_p, hF⟩

end Go.Proofs.Ytojcbhkhfcddnaa
