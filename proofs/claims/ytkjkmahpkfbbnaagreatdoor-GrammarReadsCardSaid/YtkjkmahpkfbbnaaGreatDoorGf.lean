/-
  Contracts of functions of the program, walked over their shallow forms. No condition but the ones that each states.
-/
import Derived.Test.YtkjkmahpkfbbnaaGreatDoorGe
import Derived.Test.YtkjkmahpkfbbnaaGreatDoorGramAlive
namespace Go.Proofs.YtkjkmahpkfbbnaaGreatDoor
open Go Go.Sh
set_option linter.unusedVariables false
set_option maxRecDepth 100000


set_option maxHeartbeats 2000000 in
/-- greenscreen/greenscreenlaw25.alive -/
theorem c_law25_alive {gT : Nat} {eT : TypeId} {fT : Nat × Nat} {w : World} (hgT : Tryz.prog.globalNamed "internal/strconv.uint64pow10" = some gT) (h_gT : w.heap[gT]? = some (.cells Gs.powT eT fT))  :
    Calls Tryz.prog 4 #[] w fun e w' => e = .returned (.bool true) ∧ Upd no w w' := by
  refine F4.calls ?_
  unfold F4
  have hgl := lt_get h_gT
  have lt_h_gT := lt_get h_gT
  have hF : Upd no w w := Fr.refl _ _ _
  refine buildSlice_intro (e := 5) (m := 1) (z := #[.int .u8 0]) (by kernel_rfl) (by kernel_rfl) (by rfl) (by decide) (by first | (simp [fillL, splice, repL, Value.cells, Gs.cv, Gs.ie]; done) | (simp [fillL, splice, repL, Value.cells, Gs.cv, Gs.ie]; rfl)) (fun b1 w1 e1 h_b1 _ U1 => ?_)
  have ne_gT_b1 : gT ≠ b1 := by have := lt_get h_gT; omega
  have ge_b1 : w.heap.size ≤ b1 := by have := hF.size; omega
  replace h_gT := U1.get0 h_gT
  replace hF := hF.go0 U1
  clear e1
  refine callF_ex (c_gr_Parse (bs := [125, 64, 194, 17, 64, 193, 193]) (Rd.of_blockL h_b1) rfl (by decide) (by intro x hx; simp at hx; omega) (by decide)) (fun v2 w2 D2 => ?_)
  obtain ⟨q15, l15, A15, c15, hq15, hi15, rfl, rd15, rdc15, hw15, gA15, gC15, ha15, U2⟩ := D2
  rw [show Gs.inbV [125, 64, 194, 17, 64, 193, 193] = Gs.aI1 from by unfold Gs.inbV; rw [Gs.al_1]; try rfl] at hq15
  subst hq15
  rw [show Gs.errV (Gs.inbF [125, 64, 194, 17, 64, 193, 193]) = 0 from by rw [Gs.al_1]; rfl]
  replace hi15 : Gs.its l15 = (Gs.aI1 : Gs.Inb).items := hi15.symm
  have na_rd15_gT := gA15.ne (lt_get h_gT)
  have na_rd15_b1 := gA15.ne (lt_get h_b1)
  have na_rdc15_gT := gC15.ne (lt_get h_gT)
  have na_rdc15_b1 := gC15.ne (lt_get h_b1)
  replace h_gT := U2.get0 h_gT
  replace h_b1 := U2.get0 h_b1
  replace hF := hF.go0 U2
  refine opv_run (ext_t (by rfl)) ?_
  refine opv_run (ext_t (by rfl)) ?_
  refine alloc_intro (cs := #[.int .u8 0, .bool false, .int .i64 0, .slice none 0 0]) (by kernel_rfl) (fun b3 w3 e3 h_b3 _ U3 => ?_)
  have ne_gT_b3 : gT ≠ b3 := by have := lt_get h_gT; omega
  have ne_b1_b3 : b1 ≠ b3 := by have := lt_get h_b1; omega
  have na_rd15_b3 := rd15.apart e3
  have na_rdc15_b3 := rdc15.apart e3
  have ge_b3 : w.heap.size ≤ b3 := by have := hF.size; omega
  replace rd15 := rd15.upd0 U3
  replace rdc15 := rdc15.upd0 U3
  replace h_gT := U3.get0 h_gT
  replace h_b1 := U3.get0 h_b1
  replace hF := hF.go0 U3
  clear e3
  refine store_intro (n := 4) (cs' := #[.int .u8 125, .bool false, .int .i64 2, .slice A15 l15.length c15]) (by kernel_rfl) (by rfl) (by first | rfl | (simp [Value.cells, Value.oneCell', Gs.cv, Gs.ie]; done)) h_b3 (by first | exact Nat.le_of_ble_eq_true rfl | (simp; done) | omega) (by rfl) (fun w4 N4 _ U4 => ?_)
  replace rd15 := rd15.upd1 U4 na_rd15_b3
  replace rdc15 := rdc15.upd1 U4 na_rdc15_b3
  replace h_gT := U4.get1 h_gT ne_gT_b3
  replace h_b1 := U4.get1 h_b1 ne_b1_b3
  replace h_b3 := N4
  replace hF := hF.go1 U4 ge_b3
  refine buildSlice_intro (e := 5) (m := 1) (z := #[.int .u8 0]) (by kernel_rfl) (by kernel_rfl) (by rfl) (by decide) (by first | (simp [fillL, splice, repL, Value.cells, Gs.cv, Gs.ie]; done) | (simp [fillL, splice, repL, Value.cells, Gs.cv, Gs.ie]; rfl)) (fun b5 w5 e5 h_b5 _ U5 => ?_)
  have ne_gT_b5 : gT ≠ b5 := by have := lt_get h_gT; omega
  have ne_b1_b5 : b1 ≠ b5 := by have := lt_get h_b1; omega
  have na_rd15_b5 := rd15.apart e5
  have na_rdc15_b5 := rdc15.apart e5
  have ne_b3_b5 : b3 ≠ b5 := by have := lt_get h_b3; omega
  have ge_b5 : w.heap.size ≤ b5 := by have := hF.size; omega
  replace rd15 := rd15.upd0 U5
  replace rdc15 := rdc15.upd0 U5
  replace h_gT := U5.get0 h_gT
  replace h_b1 := U5.get0 h_b1
  replace h_b3 := U5.get0 h_b3
  replace hF := hF.go0 U5
  clear e5
  refine callF_ex (c_gr_Parse (bs := [108]) (Rd.of_blockL h_b5) rfl (by decide) (by intro x hx; simp at hx; omega) (by decide)) (fun v6 w6 D6 => ?_)
  obtain ⟨q20, l20, A20, c20, hq20, hi20, rfl, rd20, rdc20, hw20, gA20, gC20, ha20, U6⟩ := D6
  rw [show Gs.inbV [108] = ⟨108, true, 0, []⟩ from by unfold Gs.inbV; rw [Gs.al_2]; try rfl] at hq20
  subst hq20
  rw [show Gs.errV (Gs.inbF [108]) = 0 from by rw [Gs.al_2]; rfl]
  replace hi20 : Gs.its l20 = (⟨108, true, 0, []⟩ : Gs.Inb).items := hi20.symm
  have na_rd20_gT := gA20.ne (lt_get h_gT)
  have na_rd20_b1 := gA20.ne (lt_get h_b1)
  have na_rd20_b3 := gA20.ne (lt_get h_b3)
  have na_rd20_b5 := gA20.ne (lt_get h_b5)
  have na_rdc20_gT := gC20.ne (lt_get h_gT)
  have na_rdc20_b1 := gC20.ne (lt_get h_b1)
  have na_rdc20_b3 := gC20.ne (lt_get h_b3)
  have na_rdc20_b5 := gC20.ne (lt_get h_b5)
  replace rd15 := rd15.upd0 U6
  replace rdc15 := rdc15.upd0 U6
  replace h_gT := U6.get0 h_gT
  replace h_b1 := U6.get0 h_b1
  replace h_b3 := U6.get0 h_b3
  replace h_b5 := U6.get0 h_b5
  replace hF := hF.go0 U6
  refine opv_run (ext_t (by rfl)) ?_
  refine opv_run (ext_t (by rfl)) ?_
  refine alloc_intro (cs := #[.int .u8 0, .bool false, .int .i64 0, .slice none 0 0]) (by kernel_rfl) (fun b7 w7 e7 h_b7 _ U7 => ?_)
  have ne_gT_b7 : gT ≠ b7 := by have := lt_get h_gT; omega
  have ne_b1_b7 : b1 ≠ b7 := by have := lt_get h_b1; omega
  have na_rd15_b7 := rd15.apart e7
  have na_rdc15_b7 := rdc15.apart e7
  have ne_b3_b7 : b3 ≠ b7 := by have := lt_get h_b3; omega
  have ne_b5_b7 : b5 ≠ b7 := by have := lt_get h_b5; omega
  have na_rd20_b7 := rd20.apart e7
  have na_rdc20_b7 := rdc20.apart e7
  have ge_b7 : w.heap.size ≤ b7 := by have := hF.size; omega
  replace rd15 := rd15.upd0 U7
  replace rdc15 := rdc15.upd0 U7
  replace rd20 := rd20.upd0 U7
  replace rdc20 := rdc20.upd0 U7
  replace h_gT := U7.get0 h_gT
  replace h_b1 := U7.get0 h_b1
  replace h_b3 := U7.get0 h_b3
  replace h_b5 := U7.get0 h_b5
  replace hF := hF.go0 U7
  clear e7
  refine store_intro (n := 4) (cs' := #[.int .u8 108, .bool true, .int .i64 0, .slice A20 l20.length c20]) (by kernel_rfl) (by rfl) (by first | rfl | (simp [Value.cells, Value.oneCell', Gs.cv, Gs.ie]; done)) h_b7 (by first | exact Nat.le_of_ble_eq_true rfl | (simp; done) | omega) (by rfl) (fun w8 N8 _ U8 => ?_)
  replace rd15 := rd15.upd1 U8 na_rd15_b7
  replace rdc15 := rdc15.upd1 U8 na_rdc15_b7
  replace rd20 := rd20.upd1 U8 na_rd20_b7
  replace rdc20 := rdc20.upd1 U8 na_rdc20_b7
  replace h_gT := U8.get1 h_gT ne_gT_b7
  replace h_b1 := U8.get1 h_b1 ne_b1_b7
  replace h_b3 := U8.get1 h_b3 ne_b3_b7
  replace h_b5 := U8.get1 h_b5 ne_b5_b7
  replace h_b7 := N8
  replace hF := hF.go1 U8 ge_b7
  refine buildSlice_intro (e := 5) (m := 1) (z := #[.int .u8 0]) (by kernel_rfl) (by kernel_rfl) (by rfl) (by decide) (by first | (simp [fillL, splice, repL, Value.cells, Gs.cv, Gs.ie]; done) | (simp [fillL, splice, repL, Value.cells, Gs.cv, Gs.ie]; rfl)) (fun b9 w9 e9 h_b9 _ U9 => ?_)
  have ne_gT_b9 : gT ≠ b9 := by have := lt_get h_gT; omega
  have ne_b1_b9 : b1 ≠ b9 := by have := lt_get h_b1; omega
  have na_rd15_b9 := rd15.apart e9
  have na_rdc15_b9 := rdc15.apart e9
  have ne_b3_b9 : b3 ≠ b9 := by have := lt_get h_b3; omega
  have ne_b5_b9 : b5 ≠ b9 := by have := lt_get h_b5; omega
  have na_rd20_b9 := rd20.apart e9
  have na_rdc20_b9 := rdc20.apart e9
  have ne_b7_b9 : b7 ≠ b9 := by have := lt_get h_b7; omega
  have ge_b9 : w.heap.size ≤ b9 := by have := hF.size; omega
  replace rd15 := rd15.upd0 U9
  replace rdc15 := rdc15.upd0 U9
  replace rd20 := rd20.upd0 U9
  replace rdc20 := rdc20.upd0 U9
  replace h_gT := U9.get0 h_gT
  replace h_b1 := U9.get0 h_b1
  replace h_b3 := U9.get0 h_b3
  replace h_b5 := U9.get0 h_b5
  replace h_b7 := U9.get0 h_b7
  replace hF := hF.go0 U9
  clear e9
  refine callF_ex (c_gr_Parse (bs := [125, 64]) (Rd.of_blockL h_b9) rfl (by decide) (by intro x hx; simp at hx; omega) (by decide)) (fun v10 w10 D10 => ?_)
  obtain ⟨q25, l25, A25, c25, hq25, hi25, rfl, rd25, rdc25, hw25, gA25, gC25, ha25, U10⟩ := D10
  rw [show Gs.inbV [125, 64] = ⟨0, false, 0, []⟩ from by unfold Gs.inbV; rw [Gs.al_3]; try rfl] at hq25
  subst hq25
  rw [show Gs.errV (Gs.inbF [125, 64]) = 20 from by rw [Gs.al_3]; rfl]
  replace hi25 : Gs.its l25 = (⟨0, false, 0, []⟩ : Gs.Inb).items := hi25.symm
  have na_rd25_gT := gA25.ne (lt_get h_gT)
  have na_rd25_b1 := gA25.ne (lt_get h_b1)
  have na_rd25_b3 := gA25.ne (lt_get h_b3)
  have na_rd25_b5 := gA25.ne (lt_get h_b5)
  have na_rd25_b7 := gA25.ne (lt_get h_b7)
  have na_rd25_b9 := gA25.ne (lt_get h_b9)
  have na_rdc25_gT := gC25.ne (lt_get h_gT)
  have na_rdc25_b1 := gC25.ne (lt_get h_b1)
  have na_rdc25_b3 := gC25.ne (lt_get h_b3)
  have na_rdc25_b5 := gC25.ne (lt_get h_b5)
  have na_rdc25_b7 := gC25.ne (lt_get h_b7)
  have na_rdc25_b9 := gC25.ne (lt_get h_b9)
  replace rd15 := rd15.upd0 U10
  replace rdc15 := rdc15.upd0 U10
  replace rd20 := rd20.upd0 U10
  replace rdc20 := rdc20.upd0 U10
  replace h_gT := U10.get0 h_gT
  replace h_b1 := U10.get0 h_b1
  replace h_b3 := U10.get0 h_b3
  replace h_b5 := U10.get0 h_b5
  replace h_b7 := U10.get0 h_b7
  replace h_b9 := U10.get0 h_b9
  replace hF := hF.go0 U10
  refine opv_run (ext_t (by rfl)) ?_
  refine opv_run (ext_t (by rfl)) ?_
  refine alloc_intro (cs := #[.int .u8 0, .bool false, .int .i64 0, .slice none 0 0]) (by kernel_rfl) (fun b11 w11 e11 h_b11 _ U11 => ?_)
  have ne_gT_b11 : gT ≠ b11 := by have := lt_get h_gT; omega
  have ne_b1_b11 : b1 ≠ b11 := by have := lt_get h_b1; omega
  have na_rd15_b11 := rd15.apart e11
  have na_rdc15_b11 := rdc15.apart e11
  have ne_b3_b11 : b3 ≠ b11 := by have := lt_get h_b3; omega
  have ne_b5_b11 : b5 ≠ b11 := by have := lt_get h_b5; omega
  have na_rd20_b11 := rd20.apart e11
  have na_rdc20_b11 := rdc20.apart e11
  have ne_b7_b11 : b7 ≠ b11 := by have := lt_get h_b7; omega
  have ne_b9_b11 : b9 ≠ b11 := by have := lt_get h_b9; omega
  have na_rd25_b11 := rd25.apart e11
  have na_rdc25_b11 := rdc25.apart e11
  have ge_b11 : w.heap.size ≤ b11 := by have := hF.size; omega
  replace rd15 := rd15.upd0 U11
  replace rdc15 := rdc15.upd0 U11
  replace rd20 := rd20.upd0 U11
  replace rdc20 := rdc20.upd0 U11
  replace rd25 := rd25.upd0 U11
  replace rdc25 := rdc25.upd0 U11
  replace h_gT := U11.get0 h_gT
  replace h_b1 := U11.get0 h_b1
  replace h_b3 := U11.get0 h_b3
  replace h_b5 := U11.get0 h_b5
  replace h_b7 := U11.get0 h_b7
  replace h_b9 := U11.get0 h_b9
  replace hF := hF.go0 U11
  clear e11
  refine store_intro (n := 4) (cs' := #[.int .u8 0, .bool false, .int .i64 0, .slice A25 l25.length c25]) (by kernel_rfl) (by rfl) (by first | rfl | (simp [Value.cells, Value.oneCell', Gs.cv, Gs.ie]; done)) h_b11 (by first | exact Nat.le_of_ble_eq_true rfl | (simp; done) | omega) (by rfl) (fun w12 N12 _ U12 => ?_)
  replace rd15 := rd15.upd1 U12 na_rd15_b11
  replace rdc15 := rdc15.upd1 U12 na_rdc15_b11
  replace rd20 := rd20.upd1 U12 na_rd20_b11
  replace rdc20 := rdc20.upd1 U12 na_rdc20_b11
  replace rd25 := rd25.upd1 U12 na_rd25_b11
  replace rdc25 := rdc25.upd1 U12 na_rdc25_b11
  replace h_gT := U12.get1 h_gT ne_gT_b11
  replace h_b1 := U12.get1 h_b1 ne_b1_b11
  replace h_b3 := U12.get1 h_b3 ne_b3_b11
  replace h_b5 := U12.get1 h_b5 ne_b5_b11
  replace h_b7 := U12.get1 h_b7 ne_b7_b11
  replace h_b9 := U12.get1 h_b9 ne_b9_b11
  replace h_b11 := N12
  replace hF := hF.go1 U12 ge_b11
  refine buildSlice_intro (e := 5) (m := 1) (z := #[.int .u8 0]) (by kernel_rfl) (by kernel_rfl) (by rfl) (by decide) (by first | (simp [fillL, splice, repL, Value.cells, Gs.cv, Gs.ie]; done) | (simp [fillL, splice, repL, Value.cells, Gs.cv, Gs.ie]; rfl)) (fun b13 w13 e13 h_b13 _ U13 => ?_)
  have ne_gT_b13 : gT ≠ b13 := by have := lt_get h_gT; omega
  have ne_b1_b13 : b1 ≠ b13 := by have := lt_get h_b1; omega
  have na_rd15_b13 := rd15.apart e13
  have na_rdc15_b13 := rdc15.apart e13
  have ne_b3_b13 : b3 ≠ b13 := by have := lt_get h_b3; omega
  have ne_b5_b13 : b5 ≠ b13 := by have := lt_get h_b5; omega
  have na_rd20_b13 := rd20.apart e13
  have na_rdc20_b13 := rdc20.apart e13
  have ne_b7_b13 : b7 ≠ b13 := by have := lt_get h_b7; omega
  have ne_b9_b13 : b9 ≠ b13 := by have := lt_get h_b9; omega
  have na_rd25_b13 := rd25.apart e13
  have na_rdc25_b13 := rdc25.apart e13
  have ne_b11_b13 : b11 ≠ b13 := by have := lt_get h_b11; omega
  have ge_b13 : w.heap.size ≤ b13 := by have := hF.size; omega
  replace rd15 := rd15.upd0 U13
  replace rdc15 := rdc15.upd0 U13
  replace rd20 := rd20.upd0 U13
  replace rdc20 := rdc20.upd0 U13
  replace rd25 := rd25.upd0 U13
  replace rdc25 := rdc25.upd0 U13
  replace h_gT := U13.get0 h_gT
  replace h_b1 := U13.get0 h_b1
  replace h_b3 := U13.get0 h_b3
  replace h_b5 := U13.get0 h_b5
  replace h_b7 := U13.get0 h_b7
  replace h_b9 := U13.get0 h_b9
  replace h_b11 := U13.get0 h_b11
  replace hF := hF.go0 U13
  clear e13
  refine callF_ex (c_gr_Buffer (bs := [96, 64, 64, 29, 240, 193]) (Rd.of_blockL h_b13) rfl (by decide) (by intro x hx; simp at hx; omega) (by decide)) (fun v14 w14 D14 => ?_)
  obtain ⟨a30, k30, xs30, A30, c30, hq30, rfl, rd30, hw30, gA30, U14⟩ := D14
  rw [show Gs.bufV [96, 64, 64, 29, 240, 193] = (96, 0, [⟨48, false, true, 0, 0⟩, ⟨193, false, false, 0, 0⟩]) from by unfold Gs.bufV; rw [Gs.al_b]] at hq30
  cases hq30
  rw [show Gs.errV (Gs.bufF [96, 64, 64, 29, 240, 193]) = 0 from by rw [Gs.al_b]; rfl]
  have na_rd30_gT := gA30.ne (lt_get h_gT)
  have na_rd30_b1 := gA30.ne (lt_get h_b1)
  have na_rd30_b3 := gA30.ne (lt_get h_b3)
  have na_rd30_b5 := gA30.ne (lt_get h_b5)
  have na_rd30_b7 := gA30.ne (lt_get h_b7)
  have na_rd30_b9 := gA30.ne (lt_get h_b9)
  have na_rd30_b11 := gA30.ne (lt_get h_b11)
  have na_rd30_b13 := gA30.ne (lt_get h_b13)
  replace rd15 := rd15.upd0 U14
  replace rdc15 := rdc15.upd0 U14
  replace rd20 := rd20.upd0 U14
  replace rdc20 := rdc20.upd0 U14
  replace rd25 := rd25.upd0 U14
  replace rdc25 := rdc25.upd0 U14
  replace h_gT := U14.get0 h_gT
  replace h_b1 := U14.get0 h_b1
  replace h_b3 := U14.get0 h_b3
  replace h_b5 := U14.get0 h_b5
  replace h_b7 := U14.get0 h_b7
  replace h_b9 := U14.get0 h_b9
  replace h_b11 := U14.get0 h_b11
  replace h_b13 := U14.get0 h_b13
  replace hF := hF.go0 U14
  refine opv_run (ext_t (by rfl)) ?_
  refine opv_run (ext_t (by rfl)) ?_
  refine opv_run (ext_t (by rfl)) ?_
  refine opv_run (ext_t (by rfl)) ?_
  refine opv_run (ldA (n := 4) (cs' := #[.int .u8 125, .bool false, .int .i64 2, .slice A15 l15.length c15]) (by kernel_rfl) h_b3 (by first | exact Nat.le_of_ble_eq_true rfl | (simp; done) | omega) (by rfl)) ?_
  refine callF_ex (c_gr_Write (tot := 6) rd15 rfl rdc15 (by have := congrArg List.length hi15; rw [Gs.its_len] at this; rw [this]; decide) (Gs.its_of hi15 (p := fun _ c => c.length ≤ 100000) (by decide))) (fun v15 w15 D15 => ?_)
  obtain ⟨u37, rfl, own37, U15⟩ := D15
  have nx15_h_gT_own37 : ¬ ownS _ gT := fun h => by have := (Own.ge own37 h).1; have := lt_get h_gT; omega
  have nx15_h_b1_own37 : ¬ ownS _ b1 := fun h => by have := (Own.ge own37 h).1; have := lt_get h_b1; omega
  have nx15_rd15_own37 : _ ∨ ∀ k, _ → ¬ ownS _ k := (rd15.lt).imp_right fun h k hk hs => by have := h k hk; have := (Own.ge own37 hs).1; omega
  have nx15_rdc15_own37 : _ ∨ ∀ k, _ → ¬ ownS _ k := (rdc15.lt).imp_right fun h k hk hs => by have := h k hk; have := (Own.ge own37 hs).1; omega
  have nx15_h_b3_own37 : ¬ ownS _ b3 := fun h => by have := (Own.ge own37 h).1; have := lt_get h_b3; omega
  have nx15_h_b5_own37 : ¬ ownS _ b5 := fun h => by have := (Own.ge own37 h).1; have := lt_get h_b5; omega
  have nx15_rd20_own37 : _ ∨ ∀ k, _ → ¬ ownS _ k := (rd20.lt).imp_right fun h k hk hs => by have := h k hk; have := (Own.ge own37 hs).1; omega
  have nx15_rdc20_own37 : _ ∨ ∀ k, _ → ¬ ownS _ k := (rdc20.lt).imp_right fun h k hk hs => by have := h k hk; have := (Own.ge own37 hs).1; omega
  have nx15_h_b7_own37 : ¬ ownS _ b7 := fun h => by have := (Own.ge own37 h).1; have := lt_get h_b7; omega
  have nx15_h_b9_own37 : ¬ ownS _ b9 := fun h => by have := (Own.ge own37 h).1; have := lt_get h_b9; omega
  have nx15_rd25_own37 : _ ∨ ∀ k, _ → ¬ ownS _ k := (rd25.lt).imp_right fun h k hk hs => by have := h k hk; have := (Own.ge own37 hs).1; omega
  have nx15_rdc25_own37 : _ ∨ ∀ k, _ → ¬ ownS _ k := (rdc25.lt).imp_right fun h k hk hs => by have := h k hk; have := (Own.ge own37 hs).1; omega
  have nx15_h_b11_own37 : ¬ ownS _ b11 := fun h => by have := (Own.ge own37 h).1; have := lt_get h_b11; omega
  have nx15_h_b13_own37 : ¬ ownS _ b13 := fun h => by have := (Own.ge own37 h).1; have := lt_get h_b13; omega
  have nx15_rd30_own37 : _ ∨ ∀ k, _ → ¬ ownS _ k := (rd30.lt).imp_right fun h k hk hs => by have := h k hk; have := (Own.ge own37 hs).1; omega
  replace own37 := own37.mono (B' := w.heap.size) hF.size
  replace rd15 := rd15.upd0 U15
  replace rdc15 := rdc15.upd0 U15
  replace rd20 := rd20.upd0 U15
  replace rdc20 := rdc20.upd0 U15
  replace rd25 := rd25.upd0 U15
  replace rdc25 := rdc25.upd0 U15
  replace rd30 := rd30.upd0 U15
  replace h_gT := U15.get0 h_gT
  replace h_b1 := U15.get0 h_b1
  replace h_b3 := U15.get0 h_b3
  replace h_b5 := U15.get0 h_b5
  replace h_b7 := U15.get0 h_b7
  replace h_b9 := U15.get0 h_b9
  replace h_b11 := U15.get0 h_b11
  replace h_b13 := U15.get0 h_b13
  replace hF := hF.go0 U15
  rw [hi15] at own37 ⊢
  rw [show Gs.writeM ⟨125, false, 2, Gs.aI1.items⟩ 6 = .ok [125, 64, 194, 17, 64, 193, 193] from Gs.al_w] at own37 ⊢
  obtain ⟨A37, c37, rfl, rd37⟩ := own37.rd1
  refine opv_run (ext_t (by rfl)) ?_
  refine opv_run (ext_t (by rfl)) ?_
  refine opv_T (eqI _ _ _ _ _) (by first | rfl | decide +kernel) ?_
  refine gdtt ?_
  refine opv_run (ldA (n := 4) (cs' := #[.int .u8 125, .bool false, .int .i64 2, .slice A15 l15.length c15]) (by kernel_rfl) h_b3 (by first | exact Nat.le_of_ble_eq_true rfl | (simp; done) | omega) (by rfl)) ?_
  refine gdtt ?_
  refine callF_val (c_gr_Text (page := 37) rd15 rfl rdc15 hgT h_gT (by decide) (by decide) hw15 (Gs.its_of hi15 (p := fun p _ => -9223372036854775808 ≤ p ∧ p ≤ 9223372036854775807) (by decide)) (by have := congrArg List.length hi15; rw [Gs.its_len] at this; rw [this]; decide) (Gs.its_of hi15 (p := fun _ c => c.length ≤ 100000) (by decide))) (fun w16 U16 => ?_)
  replace rd15 := rd15.upd0 U16
  replace rdc15 := rdc15.upd0 U16
  replace rd20 := rd20.upd0 U16
  replace rdc20 := rdc20.upd0 U16
  replace rd25 := rd25.upd0 U16
  replace rdc25 := rdc25.upd0 U16
  replace rd30 := rd30.upd0 U16
  replace own37 := own37.upd0 U16
  replace h_gT := U16.get0 h_gT
  replace h_b1 := U16.get0 h_b1
  replace h_b3 := U16.get0 h_b3
  replace h_b5 := U16.get0 h_b5
  replace h_b7 := U16.get0 h_b7
  replace h_b9 := U16.get0 h_b9
  replace h_b11 := U16.get0 h_b11
  replace h_b13 := U16.get0 h_b13
  replace hF := hF.go0 U16
  rw [hi15, show Gs.txtL 37 ⟨125, false, 2, Gs.aI1.items⟩ = _ from Gs.al_t1]
  refine gdtt ?_
  refine opv_T (eqS _ _ _ _) (by first | rfl | decide +kernel) ?_
  refine pickt ?_
  refine gdtt ?_
  refine gdtt ?_
  refine opv_T (eqI _ _ _ _ _) (by first | rfl | decide +kernel) ?_
  refine pickt ?_
  refine gdtt ?_
  refine opv_run (fieldAt_eq (off := 1) (by kernel_rfl)) ?_
  refine gdtt ?_
  refine opv_run (ldC (by kernel_rfl) h_b7 (by rfl)) ?_
  refine pickt ?_
  refine gdtt ?_
  refine opv_run (ldA (n := 4) (cs' := #[.int .u8 108, .bool true, .int .i64 0, .slice A20 l20.length c20]) (by kernel_rfl) h_b7 (by first | exact Nat.le_of_ble_eq_true rfl | (simp; done) | omega) (by rfl)) ?_
  refine gdtt ?_
  refine callF_val (c_gr_Text (page := 37) rd20 rfl rdc20 hgT h_gT (by decide) (by decide) hw20 (Gs.its_of hi20 (p := fun p _ => -9223372036854775808 ≤ p ∧ p ≤ 9223372036854775807) (by decide)) (by have := congrArg List.length hi20; rw [Gs.its_len] at this; rw [this]; decide) (Gs.its_of hi20 (p := fun _ c => c.length ≤ 100000) (by decide))) (fun w17 U17 => ?_)
  replace rd15 := rd15.upd0 U17
  replace rdc15 := rdc15.upd0 U17
  replace rd20 := rd20.upd0 U17
  replace rdc20 := rdc20.upd0 U17
  replace rd25 := rd25.upd0 U17
  replace rdc25 := rdc25.upd0 U17
  replace rd30 := rd30.upd0 U17
  replace own37 := own37.upd0 U17
  replace h_gT := U17.get0 h_gT
  replace h_b1 := U17.get0 h_b1
  replace h_b3 := U17.get0 h_b3
  replace h_b5 := U17.get0 h_b5
  replace h_b7 := U17.get0 h_b7
  replace h_b9 := U17.get0 h_b9
  replace h_b11 := U17.get0 h_b11
  replace h_b13 := U17.get0 h_b13
  replace hF := hF.go0 U17
  rw [hi20, show Gs.txtL 37 ⟨108, true, 0, (⟨108, true, 0, []⟩ : Gs.Inb).items⟩ = _ from Gs.al_t2]
  refine gdtt ?_
  refine opv_T (eqS _ _ _ _) (by first | rfl | decide +kernel) ?_
  refine pickt ?_
  refine gdtt ?_
  refine gdtt ?_
  refine opv_T (eqI _ _ _ _ _) (by first | rfl | decide +kernel) ?_
  refine pickt ?_
  refine gdtt ?_
  refine gdtt ?_
  refine opv_T (eqI _ _ _ _ _) (by first | rfl | decide +kernel) ?_
  refine pickt ?_
  refine gdtt ?_
  refine gdtt ?_
  refine opv_T (eqI _ _ _ _ _) (by first | rfl | decide +kernel) ?_
  refine pickt ?_
  refine gdtt ?_
  refine gdtt ?_
  refine opv_run (len_sl (by kernel_rfl) _ _ _) ?_
  refine gdtt ?_
  refine opv_T (eqI _ _ _ _ _) (by first | rfl | decide +kernel) ?_
  refine pickt ?_
  refine gdtt ?_
  have hl30 : ([⟨48, false, true, 0, 0⟩, ⟨193, false, false, 0, 0⟩] : List Gs.Cell).length = 2 := rfl
  refine gdtt ?_
  refine idx_rows Gs.encC (by kernel_rfl) (by kernel_rfl) rd30 (by first | rfl | assumption | omega) (by omega) (by omega) (fun x18 hx18 => ?_)
  try simp only [Int.toNat_natCast] at hx18
  have hxe : (⟨48, false, true, 0, 0⟩ : Gs.Cell) = x18 := Option.some.inj (show some _ = some _ from hx18)
  rw [← hxe]
  refine gdtt ?_
  refine opv_run (build_eq (l := [(0, 1), (1, 1), (2, 1), (3, 1), (4, 1)]) (z := #[.int .u8 0, .bool false, .bool false, .int .u8 0, .int .u8 0]) (cs := Gs.cv ⟨48, false, true, 0, 0⟩) (by kernel_rfl) (by rfl)) ?_
  refine gdtt ?_
  refine opv_T (eq_Cell (a := ⟨48, false, true, 0, 0⟩) (b := ⟨48, false, true, 0, 0⟩) _) rfl ?_
  refine pickt ?_
  refine gdtt ?_
  refine gdtt ?_
  refine opv_T (eqI _ _ _ _ _) (by first | rfl | decide +kernel) ?_
  refine pickt ?_
  refine gdtt ?_
  refine gdtt ?_
  refine opv_run (convBS (e := 5) (by kernel_rfl) (by kernel_rfl) (by kernel_rfl) own37.rdS (by first | rfl | assumption | (simp; done) | omega)) ?_
  refine gdtt ?_
  refine opv_T (eqS _ _ _ _) (by first | rfl | decide +kernel) ?_
  refine pickt ?_
  refine gdtt ?_
  refine gdtt ?_
  refine opv_T (eqI _ _ _ _ _) (by first | rfl | decide +kernel) ?_
  refine pickt ?_
  refine gdtt ?_
  refine opv_run (ldA (n := 4) (cs' := #[.int .u8 125, .bool false, .int .i64 2, .slice A15 l15.length c15]) (by kernel_rfl) h_b3 (by first | exact Nat.le_of_ble_eq_true rfl | (simp; done) | omega) (by rfl)) ?_
  refine gdtt ?_
  refine opv_run (ldA (n := 4) (cs' := #[.int .u8 125, .bool false, .int .i64 2, .slice A15 l15.length c15]) (by kernel_rfl) h_b3 (by first | exact Nat.le_of_ble_eq_true rfl | (simp; done) | omega) (by rfl)) ?_
  refine gdtt ?_
  refine callF_T (c_gr_Same rd15 rfl rdc15 rd15 rfl rdc15 (by have := congrArg List.length hi15; rw [Gs.its_len] at this; rw [this]; decide) (Gs.its_of hi15 (p := fun _ c => c.length ≤ 100000) (by decide))) (decide_eq_true rfl) (fun w21 U21 => ?_)
  replace rd15 := rd15.upd0 U21
  replace rdc15 := rdc15.upd0 U21
  replace rd20 := rd20.upd0 U21
  replace rdc20 := rdc20.upd0 U21
  replace rd25 := rd25.upd0 U21
  replace rdc25 := rdc25.upd0 U21
  replace rd30 := rd30.upd0 U21
  replace own37 := own37.upd0 U21
  replace h_gT := U21.get0 h_gT
  replace h_b1 := U21.get0 h_b1
  replace h_b3 := U21.get0 h_b3
  replace h_b5 := U21.get0 h_b5
  replace h_b7 := U21.get0 h_b7
  replace h_b9 := U21.get0 h_b9
  replace h_b11 := U21.get0 h_b11
  replace h_b13 := U21.get0 h_b13
  replace hF := hF.go0 U21
  refine pickt ?_
  refine gdtt ?_
  refine opv_run (ldA (n := 4) (cs' := #[.int .u8 125, .bool false, .int .i64 2, .slice A15 l15.length c15]) (by kernel_rfl) h_b3 (by first | exact Nat.le_of_ble_eq_true rfl | (simp; done) | omega) (by rfl)) ?_
  refine gdtt ?_
  refine opv_run (ldA (n := 4) (cs' := #[.int .u8 108, .bool true, .int .i64 0, .slice A20 l20.length c20]) (by kernel_rfl) h_b7 (by first | exact Nat.le_of_ble_eq_true rfl | (simp; done) | omega) (by rfl)) ?_
  refine gdtt ?_
  refine callF_F (c_gr_Same rd15 rfl rdc15 rd20 rfl rdc20 (by have := congrArg List.length hi15; rw [Gs.its_len] at this; rw [this]; decide) (Gs.its_of hi15 (p := fun _ c => c.length ≤ 100000) (by decide))) (decide_eq_false fun h => by injection h with h1; exact absurd h1 (by decide)) (fun w22 U22 => ?_)
  replace rd15 := rd15.upd0 U22
  replace rdc15 := rdc15.upd0 U22
  replace rd20 := rd20.upd0 U22
  replace rdc20 := rdc20.upd0 U22
  replace rd25 := rd25.upd0 U22
  replace rdc25 := rdc25.upd0 U22
  replace rd30 := rd30.upd0 U22
  replace own37 := own37.upd0 U22
  replace h_gT := U22.get0 h_gT
  replace h_b1 := U22.get0 h_b1
  replace h_b3 := U22.get0 h_b3
  replace h_b5 := U22.get0 h_b5
  replace h_b7 := U22.get0 h_b7
  replace h_b9 := U22.get0 h_b9
  replace h_b11 := U22.get0 h_b11
  replace h_b13 := U22.get0 h_b13
  replace hF := hF.go0 U22
  refine gdtt ?_
  refine opv_run (notF) ?_
  refine pickt ?_
  exact ⟨rfl, hF⟩

end Go.Proofs.YtkjkmahpkfbbnaaGreatDoor
