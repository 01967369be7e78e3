/- Part of a proof. No condition but those that its theorems state. -/
import Derived.Test.YtjdoakbadehicaaGreatDoorQa
import Derived.Test.YtjdoakbadehicaaGreatDoorQc
import Derived.Lib.LaidTab
import Derived.Lib.AppendIntMem
import Derived.ChangeSame
import Derived.Deep.Slices
set_option linter.unusedVariables false
set_option linter.unusedSimpArgs false
section
namespace Go.Proofs.YtjdoakbadehicaaGreatDoor
open Go Go.Sh
set_option maxRecDepth 100000
theorem afK {n : Int} {w : World} (hn : 0 ≤ n ∧ n < 100) : oX 77 #[Z.i n] w fun e w' => e = .returned (.string (Gs.zC n)) ∧ aB no w w' := by
  obtain ⟨m, rfl⟩ := Int.eq_ofNat_of_zero_le hn.1
  rw [Gs.SH]
  exact (Go.Proofs.Tryz.strconv_Itoa_small m (by omega) w).mono fun e w' h => ⟨h.1, by rw [h.2]; exact Fr.refl _ _ _⟩
theorem Eb {v : Int} {w : World} :
    oX 114 #[Z.i v] w fun e w' => e = .returned (Z.u (Gs.jV v)) ∧ aB no w w' := by
 refine aaT.calls ?_
 unfold aaT
 have hvm : 0 ≤ v % 64 ∧ v % 64 < 64 := by omega
 have hF : aB no w w := Fr.refl _ _ _
 refine ak (ak3 _ _) ?_
 refine ak (alk _ (by omega) (by omega) (by omega)) ?_
 refine az (geq _ _ _ _) (fun h1 => ?_) (fun h1 => ?_)
 refine aV (aV ?_)
 refine az (leq _ _ _ _) (fun h2 => ?_) (fun h2 => ?_)
 refine aU (aV (aV ?_))
 refine az (jO _ _ _ _ _) (fun h3 => ?_) (fun h3 => ?_)
 refine aU (bg (bg (aU (aK ?_))))
 refine ak (RY _ (by omega) (by omega)) ?_
 refine ak (yY (by kernel_rfl) (by kernel_rfl) (by omega)) ?_
 exact ⟨oO (by unfold Gs.jV; dsimp only; (rw [if_pos (by omega)] <;> omega)), hF⟩
 refine aU (aW (aW ?_))
 refine az (dh _ _ _ _ _) (fun h5 => ?_) (fun h5 => ?_)
 refine aQ (aK ?_)
 refine ak (RY _ (by omega) (by omega)) ?_
 refine ak (yY (by kernel_rfl) (by kernel_rfl) (by omega)) ?_
 exact ⟨oO (by unfold Gs.jV; dsimp only; (rw [if_pos (by omega)] <;> omega)), hF⟩
 refine aQ (aH ?_)
 refine ak (RY _ (by omega) (by omega)) ?_
 refine ak (yY (by kernel_rfl) (by kernel_rfl) (by omega)) ?_
 exact ⟨oO (by unfold Gs.jV; dsimp only; (rw [if_neg (by omega)] <;> omega)), hF⟩
 refine aU (aP (aP (aQ (aW (aW ?_)))))
 refine az (dh _ _ _ _ _) (fun h8 => ?_) (fun h8 => ?_)
 refine aQ (aK ?_)
 refine ak (RY _ (by omega) (by omega)) ?_
 refine ak (yY (by kernel_rfl) (by kernel_rfl) (by omega)) ?_
 exact ⟨oO (by unfold Gs.jV; dsimp only; (rw [if_pos (by omega)] <;> omega)), hF⟩
 refine aQ (aH ?_)
 refine ak (RY _ (by omega) (by omega)) ?_
 refine ak (yY (by kernel_rfl) (by kernel_rfl) (by omega)) ?_
 exact ⟨oO (by unfold Gs.jV; dsimp only; (rw [if_neg (by omega)] <;> omega)), hF⟩
 refine aP (aP (aQ (aP (aP (aQ (aW (aW ?_)))))))
 refine az (dh _ _ _ _ _) (fun h11 => ?_) (fun h11 => ?_)
 refine aQ (aK ?_)
 refine ak (RY _ (by omega) (by omega)) ?_
 refine ak (yY (by kernel_rfl) (by kernel_rfl) (by omega)) ?_
 exact ⟨oO (by unfold Gs.jV; dsimp only; (rw [if_pos (by omega)] <;> omega)), hF⟩
 refine aQ (aH ?_)
 refine ak (RY _ (by omega) (by omega)) ?_
 refine ak (yY (by kernel_rfl) (by kernel_rfl) (by omega)) ?_
 exact ⟨oO (by unfold Gs.jV; dsimp only; (rw [if_neg (by omega)] <;> omega)), hF⟩
theorem Ky {a : Int} {w : World} (ha : 0 ≤ a ∧ a ≤ 255) :
    oX 159 #[Z.u a] w fun e w' => e = .returned (Z.i (a % 64)) ∧ aB no w w' := by
 refine abb.calls ?_
 unfold abb
 have hF : aB no w w := Fr.refl _ _ _
 refine ak (Dz _ (by omega)) ?_
 refine ak (kC (by kernel_rfl) (by kernel_rfl) (by omega)) ?_
 exact ⟨rfl, hF⟩
theorem Jr {a b : Int} {w : World} (ha : 0 ≤ a ∧ a ≤ 255) (hb : 0 ≤ b ∧ b ≤ 255) :
    oX 138 #[Z.u a, Z.u b] w fun e w' => e = .returned (Z.i (Gs.vP a b)) ∧ aB no w w' := by
 refine aa4.calls ?_
 unfold aa4
 have hF : aB no w w := Fr.refl _ _ _
 refine ak (ZR _ (by omega)) ?_
 refine az (dh _ _ _ _ _) (fun h1 => ?_) (fun h1 => ?_)
 refine aK ?_
 refine ak (kC (by kernel_rfl) (by kernel_rfl) (by omega)) ?_
 refine ak (ak2 _ (by omega)) ?_
 refine ak (kC (by kernel_rfl) (by kernel_rfl) (by omega)) ?_
 refine ak (or8 _ (by omega) (by omega)) ?_
 exact ⟨oO (by unfold Gs.vP; (rw [if_pos (by omega)] <;> omega)), hF⟩
 refine aH ?_
 refine aA (Ky ha) (fun w3 U3 => ?_)
 refine ak (aqo _ (by omega)) ?_
 refine aA (Ky hb) (fun w4 U4 => ?_)
 refine ak (RY _ (by omega) (by omega)) ?_
 replace hF := (hF.go0 U3).go0 U4
 exact ⟨oO (by unfold Gs.vP; (rw [if_neg (by omega)] <;> omega)), hF⟩
theorem Uk {p n : Int} {w : World} :
    oX 113 #[Z.i p, Z.i n] w fun e w' => e = .returned (.tuple #[.agg #[Z.u (Gs.mV p n).1, Z.u (Gs.mV p n).2.1], Z.i (Gs.mV p n).2.2]) ∧ aB no w w' := by
 refine aaS.calls ?_
 unfold aaS
 have hF : aB no w w := Fr.refl _ _ _
 refine Z.n (#[Z.u 0, Z.u 0]) (fun b1 w1 e1 ah _ U1 => ?_)
 have bY : w.heap.size ≤ b1 := by have := hF.size; omega
 refine az (lss _ _ _ _) (fun h2 => ?_) (fun h2 => ?_)
 refine bg (bg (aU (bg (bg (aU (bg (bg (bg (aU (aK ?_))))))))))
 refine ak (uD (n := 2) (m := 1) (z := #[Z.u 0, Z.u 0]) (by kernel_rfl) (by kernel_rfl) (by (simp [eH, splice, fO, Value.cells, Gs.cv]; rfl))) ?_
 refine iD (n := 2) (by kernel_rfl) (by rfl) (by (simp [Value.cells, Value.oneCell', Gs.cv]; done)) ah (Nat.le_of_ble_eq_true rfl) (by (simp; rfl)) (fun w3 ah _ U3 => ?_)
 refine Z.a 2 ah ?_
 replace hF := (hF.go0 U1).go1 U3 bY
 rw [Gs.Iq (by omega)]; exact ⟨rfl, hF⟩
 refine aW (aW ?_)
 refine az (gtr _ _ _ _) (fun h5 => ?_) (fun h5 => ?_)
 refine aQ (bg (bg (aU (bg (bg (bg (aU (aK ?_))))))))
 refine ak (uD (n := 2) (m := 1) (z := #[Z.u 0, Z.u 0]) (by kernel_rfl) (by kernel_rfl) (by (simp [eH, splice, fO, Value.cells, Gs.cv]; rfl))) ?_
 refine iD (n := 2) (by kernel_rfl) (by rfl) (by (simp [Value.cells, Value.oneCell', Gs.cv]; done)) ah (Nat.le_of_ble_eq_true rfl) (by (simp; rfl)) (fun w6 ah _ U6 => ?_)
 refine Z.a 2 ah ?_
 replace hF := (hF.go0 U1).go1 U6 bY
 rw [Gs.Iq (by omega)]; exact ⟨rfl, hF⟩
 refine aQ (aW (aW ?_))
 refine az (lss _ _ _ _) (fun h8 => ?_) (fun h8 => ?_)
 refine aQ (bg (bg (bg (aU (aK ?_)))))
 refine ak (uD (n := 2) (m := 1) (z := #[Z.u 0, Z.u 0]) (by kernel_rfl) (by kernel_rfl) (by (simp [eH, splice, fO, Value.cells, Gs.cv]; rfl))) ?_
 refine iD (n := 2) (by kernel_rfl) (by rfl) (by (simp [Value.cells, Value.oneCell', Gs.cv]; done)) ah (Nat.le_of_ble_eq_true rfl) (by (simp; rfl)) (fun w9 ah _ U9 => ?_)
 refine Z.a 2 ah ?_
 replace hF := (hF.go0 U1).go1 U9 bY
 rw [Gs.Iq (by omega)]; exact ⟨rfl, hF⟩
 refine aQ (aW (aW (aW ?_)))
 refine az (geq _ _ _ _) (fun h11 => ?_) (fun h11 => ?_)
 refine aQ (aK ?_)
 refine ak (uD (n := 2) (m := 1) (z := #[Z.u 0, Z.u 0]) (by kernel_rfl) (by kernel_rfl) (by (simp [eH, splice, fO, Value.cells, Gs.cv]; rfl))) ?_
 refine iD (n := 2) (by kernel_rfl) (by rfl) (by (simp [Value.cells, Value.oneCell', Gs.cv]; done)) ah (Nat.le_of_ble_eq_true rfl) (by (simp; rfl)) (fun w12 ah _ bW => ?_)
 refine Z.a 2 ah ?_
 replace hF := (hF.go0 U1).go1 bW bY
 rw [Gs.Iq (by omega)]; exact ⟨rfl, hF⟩
 refine aQ (aH ?_)
 refine az (gtr _ _ _ _) (fun h14 => ?_) (fun h14 => ?_)
 refine aK ?_
 refine ak (aqn _ _) ?_
 refine ak (yY (by kernel_rfl) (by kernel_rfl) (by omega)) ?_
 refine ak (ai1 (by kernel_rfl) (by kernel_rfl)) ?_
 refine ak (uD (n := 2) (m := 1) (z := #[Z.u 0, Z.u 0]) (by kernel_rfl) (by kernel_rfl) (by (simp [eH, splice, fO, Value.cells, Gs.cv]; rfl))) ?_
 refine iD (n := 2) (by kernel_rfl) (by rfl) (by (simp [Value.cells, Value.oneCell', Gs.cv]; done)) ah (Nat.le_of_ble_eq_true rfl) (by (simp; rfl)) (fun w16 ah _ bU => ?_)
 refine Z.a 2 ah ?_
 replace hF := (hF.go0 U1).go1 bU bY
 rw [Gs.afL (by omega) (by omega)]; exact ⟨rfl, hF⟩
 refine aH ?_
 refine ak (aqm _ _) ?_
 refine aA (Eb (v := p / 64)) (fun xY dR => ?_)
 refine aA (Eb (v := p)) (fun Ag eU => ?_)
 refine ak (uD (n := 2) (m := 1) (z := #[Z.u 0, Z.u 0]) (by kernel_rfl) (by kernel_rfl) (by (simp [eH, splice, fO, Value.cells, Gs.cv]; rfl))) ?_
 replace ah := eU.af (dR.af ah)
 refine iD (n := 2) (by kernel_rfl) (by rfl) (by (simp [Value.cells, Value.oneCell', Gs.cv]; done)) ah (Nat.le_of_ble_eq_true rfl) (by (simp; rfl)) (fun xM ah _ dF => ?_)
 refine Z.a 2 ah ?_
 replace hF := (((hF.go0 U1).go0 dR).go0 eU).go1 dF bY
 rw [Gs.abU (by omega) (by omega)]; exact ⟨rfl, hF⟩
theorem sF {b : Int} {w : World} :
    oX 115 #[Z.u b] w fun e w' => e = .returned (.bool (Gs.dX b)) ∧ aB no w w' := by
 refine aaU.calls ?_
 unfold aaU
 have hF : aB no w w := Fr.refl _ _ _
 refine bQ (fun g w' => ∃ (q : Bool), (g 4 = .bool q) ∧ (q = decide (b = 0 ∨ b = 12 ∨ b = 13 ∨ b = 21 ∨ b = 25 ∨ b = 28 ∨ b = 30 ∨ b = 63)) ∧ (aB no w w')) (fun J1 hJ1 => ?_) (fun gJ1 jY hI => ?_)
 refine az (dh _ _ _ _ _) (fun h1 => ?_) (fun h1 => ?_)
 refine aK ?_
 refine hJ1 _ _ ?_
 exact ⟨_, (by rfl), (by exact (decide_eq_true (by omega)).symm), hF⟩
 refine aH ?_
 refine az (dh _ _ _ _ _) (fun h2 => ?_) (fun h2 => ?_)
 refine aK ?_
 refine hJ1 _ _ ?_
 exact ⟨_, (by rfl), (by exact (decide_eq_true (by omega)).symm), hF⟩
 refine aH ?_
 refine az (dh _ _ _ _ _) (fun h3 => ?_) (fun h3 => ?_)
 refine aK ?_
 refine hJ1 _ _ ?_
 exact ⟨_, (by rfl), (by exact (decide_eq_true (by omega)).symm), hF⟩
 refine aH ?_
 refine az (dh _ _ _ _ _) (fun h4 => ?_) (fun h4 => ?_)
 refine aK ?_
 refine hJ1 _ _ ?_
 exact ⟨_, (by rfl), (by exact (decide_eq_true (by omega)).symm), hF⟩
 refine aH ?_
 refine az (dh _ _ _ _ _) (fun h5 => ?_) (fun h5 => ?_)
 refine aK ?_
 refine hJ1 _ _ ?_
 exact ⟨_, (by rfl), (by exact (decide_eq_true (by omega)).symm), hF⟩
 refine aH ?_
 refine az (dh _ _ _ _ _) (fun h6 => ?_) (fun h6 => ?_)
 refine aK ?_
 refine hJ1 _ _ ?_
 exact ⟨_, (by rfl), (by exact (decide_eq_true (by omega)).symm), hF⟩
 refine aH ?_
 refine az (dh _ _ _ _ _) (fun h7 => ?_) (fun h7 => ?_)
 refine aK ?_
 refine hJ1 _ _ ?_
 exact ⟨_, (by rfl), (by exact (decide_eq_true (by omega)).symm), hF⟩
 refine aH ?_
 refine az (dh _ _ _ _ _) (fun h8 => ?_) (fun h8 => ?_)
 refine hJ1 _ _ ?_
 exact ⟨_, (by rfl), (by exact (decide_eq_true (by omega)).symm), hF⟩
 refine hJ1 _ _ ?_
 exact ⟨_, (by rfl), (by exact (decide_eq_false (by omega)).symm), hF⟩
 obtain ⟨q, g4, hq, hF⟩ := hI
 rw [g4]
 refine kL (fun h9 => ?_) (fun h9 => ?_)
 rw [Gs.abV (of_decide_eq_true (hq.symm.trans (by assumption)))]; exact ⟨rfl, hF⟩
 refine ak (geq _ _ _ _) ?_
 rw [Gs.afM (of_decide_eq_false (hq.symm.trans (by assumption)))]; exact ⟨rfl, hF⟩
theorem Q3 {page : Int} {c : Gs.Cell} {w : World} (hc : 0 ≤ c.b ∧ c.b ≤ 255) :
    oX 78 #[Z.i page, .agg (Gs.cv c).toArray] w fun e w' => e = .returned (.string (Utf8.encode (Gs.vZ page c))) ∧ aB no w w' := by
 refine F78.calls ?_
 unfold F78
 have hF : aB no w w := Fr.refl _ _ _
 refine Z.x ((Gs.cv c).toArray) (fun b1 w1 e1 ah _ U1 => ?_)
 refine Z.f 2 ?_
 refine oJ (kH (by kernel_rfl) ah (by rfl)) (fun h2 => ?_) (fun h2 => ?_)
 refine bg (bg (bg (bg (tN (tN (tN (tN (bg (aU (aK ?_))))))))))
 replace hF := hF.go0 U1
 exact ⟨congrArg (fun r => Ending.returned (.string r)) (by exact (Gs.V7 (.inl (by assumption)))), hF⟩
 refine aW ?_
 refine Z.f 1 ?_
 refine aW ?_
 refine oJ (kH (by kernel_rfl) ah (by rfl)) (fun h4 => ?_) (fun h4 => ?_)
 refine aW ?_
 refine ak (jE) ?_
 refine aW (aP (aP (aP (aP (aW (aQ (aQ (aH ?_))))))))
 refine Z.f 1 ?_
 refine oJ (kH (by kernel_rfl) ah (by rfl)) (fun h5 => ?_) (fun h5 => ?_)
 refine aK ?_
 refine Z.f 0 ?_
 refine Z.l ah ?_
 refine aA (Gv (by omega) (by omega)) (fun w6 U6 => ?_)
 refine ak (PW (by kernel_rfl) (by kernel_rfl)) ?_
 replace hF := (hF.go0 U1).go0 U6
 exact ⟨congrArg (fun r => Ending.returned (.string r)) (by exact (congrArg Utf8.encode (Gs.V8 (by simp_all) (by assumption))).symm), hF⟩
 refine aH ?_
 refine Z.f 0 ?_
 refine Z.l ah ?_
 refine aA (FM (by omega) (by omega)) (fun w8 U8 => ?_)
 refine ak (PW (by kernel_rfl) (by kernel_rfl)) ?_
 replace hF := (hF.go0 U1).go0 U8
 exact ⟨congrArg (fun r => Ending.returned (.string r)) (by exact absurd (Eq.trans (Eq.symm (show c.ge = true by assumption)) (show c.ge = false by assumption)) (by decide)), hF⟩
 refine aW ?_
 refine ak (mY) ?_
 refine aW (aV ?_)
 refine Z.f 0 ?_
 refine aV ?_
 refine Z.l ah ?_
 refine aV ?_
 refine eF (QP) (fun w10 aX h10 => ?_) (fun w10 aX h10 => ?_)
 simp only [Z.d, Z.c] at h10
 refine aV ?_
 refine ak (jE) ?_
 refine aW (aU (aQ (aH ?_)))
 refine Z.f 1 ?_
 replace ah := aX.af ah
 refine oJ (kH (by kernel_rfl) ah (by rfl)) (fun h11 => ?_) (fun h11 => ?_)
 refine aK ?_
 refine Z.f 0 ?_
 refine Z.l ah ?_
 refine aA (Gv (by omega) (by omega)) (fun w12 bW => ?_)
 refine ak (PW (by kernel_rfl) (by kernel_rfl)) ?_
 replace hF := ((hF.go0 U1).go0 aX).go0 bW
 exact ⟨congrArg (fun r => Ending.returned (.string r)) (by exact (congrArg Utf8.encode (Gs.V8 (by simp_all) (by assumption))).symm), hF⟩
 refine aH ?_
 refine Z.f 0 ?_
 refine Z.l ah ?_
 refine aA (FM (by omega) (by omega)) (fun rF bZ => ?_)
 refine ak (PW (by kernel_rfl) (by kernel_rfl)) ?_
 replace hF := ((hF.go0 U1).go0 aX).go0 bZ
 exact ⟨congrArg (fun r => Ending.returned (.string r)) (by exact (congrArg Utf8.encode (Gs.afN (by simp_all) (by simp_all) (by omega))).symm), hF⟩
 simp only [Z.d, Z.c] at h10
 refine aV ?_
 refine ak (mY) ?_
 refine aW (aU (aQ (aK ?_)))
 replace hF := (hF.go0 U1).go0 aX
 exact ⟨congrArg (fun r => Ending.returned (.string r)) (by exact (Gs.V7 (.inr ⟨by assumption, by omega⟩))), hF⟩
theorem JA {b : Int} {w : World} (hb : 0 ≤ b ∧ b ≤ 255) :
    oX 81 #[Z.u b] w fun e w' => e = .returned (Z.i (Gs.lH b)) ∧ aB no w w' := by
 refine F81.calls ?_
 unfold F81
 have hF : aB no w w := Fr.refl _ _ _
 refine bQ (fun g w' => (g 3 = Z.i (Gs.lH b)) ∧ (aB no w w')) (fun J1 hJ1 => ?_) (fun gJ1 jY hI => ?_)
 refine az (geq _ _ _ _) (fun h1 => ?_) (fun h1 => ?_)
 refine aV (aV ?_)
 refine az (leq _ _ _ _) (fun h2 => ?_) (fun h2 => ?_)
 refine aU (aK ?_)
 refine ak (rP _ (by omega)) ?_
 refine ak (kC (by kernel_rfl) (by kernel_rfl) (by omega)) ?_
 refine hJ1 _ _ ?_
 exact ⟨(congrArg (Value.int .i64) (by unfold Gs.lH; (rw [if_pos (by omega)] <;> omega))), hF⟩
 refine aU (aH ?_)
 refine az (geq _ _ _ _) (fun h3 => ?_) (fun h3 => ?_)
 refine aV (aV ?_)
 refine az (leq _ _ _ _) (fun h4 => ?_) (fun h4 => ?_)
 refine aU (aK ?_)
 refine ak (rP _ (by omega)) ?_
 refine ak (kC (by kernel_rfl) (by kernel_rfl) (by omega)) ?_
 refine ak (dJ _ (by omega)) ?_
 refine hJ1 _ _ ?_
 exact ⟨(congrArg (Value.int .i64) (by unfold Gs.lH; (rw [if_pos (by omega)] <;> omega))), hF⟩
 refine aU (aH ?_)
 refine az (geq _ _ _ _) (fun h5 => ?_) (fun h5 => ?_)
 refine aV (aV ?_)
 refine az (leq _ _ _ _) (fun h6 => ?_) (fun h6 => ?_)
 refine aU (aK ?_)
 refine ak (rP _ (by omega)) ?_
 refine ak (kC (by kernel_rfl) (by kernel_rfl) (by omega)) ?_
 refine ak (dJ _ (by omega)) ?_
 refine hJ1 _ _ ?_
 exact ⟨(congrArg (Value.int .i64) (by unfold Gs.lH; (rw [if_pos (by omega)] <;> omega))), hF⟩
 refine aU (aH ?_)
 refine az (geq _ _ _ _) (fun h7 => ?_) (fun h7 => ?_)
 refine aV (aV ?_)
 refine az (leq _ _ _ _) (fun h8 => ?_) (fun h8 => ?_)
 refine aU (aK ?_)
 refine ak (rP _ (by omega)) ?_
 refine ak (kC (by kernel_rfl) (by kernel_rfl) (by omega)) ?_
 refine ak (dJ _ (by omega)) ?_
 refine hJ1 _ _ ?_
 exact ⟨(congrArg (Value.int .i64) (by unfold Gs.lH; (rw [if_pos (by omega)] <;> omega))), hF⟩
 refine aU (aH ?_)
 refine hJ1 _ _ ?_
 exact ⟨(congrArg (Value.int .i64) (by unfold Gs.lH; (rw [if_neg (by omega), if_neg (by omega), if_neg (by omega), if_neg (by omega)]))), hF⟩
 refine aP (aP (aQ (aH ?_)))
 refine hJ1 _ _ ?_
 exact ⟨(congrArg (Value.int .i64) (by unfold Gs.lH; (rw [if_pos (by omega)] <;> omega))), hF⟩
 refine aP (aP (aQ (aH ?_)))
 refine az (geq _ _ _ _) (fun h9 => ?_) (fun h9 => ?_)
 refine aV (aV ?_)
 refine az (leq _ _ _ _) (fun h10 => ?_) (fun h10 => ?_)
 refine aU (aK ?_)
 refine ak (rP _ (by omega)) ?_
 refine ak (kC (by kernel_rfl) (by kernel_rfl) (by omega)) ?_
 refine ak (dJ _ (by omega)) ?_
 refine hJ1 _ _ ?_
 exact ⟨(congrArg (Value.int .i64) (by unfold Gs.lH; (rw [if_pos (by omega)] <;> omega))), hF⟩
 refine aU (aH ?_)
 refine hJ1 _ _ ?_
 exact ⟨(congrArg (Value.int .i64) (by unfold Gs.lH; (rw [if_pos (by omega)] <;> omega))), hF⟩
 refine aP (aP (aQ (aH ?_)))
 refine hJ1 _ _ ?_
 exact ⟨(congrArg (Value.int .i64) (by unfold Gs.lH; (rw [if_pos (by omega)] <;> omega))), hF⟩
 refine aP (aP (aQ (aH ?_)))
 refine az (geq _ _ _ _) (fun h11 => ?_) (fun h11 => ?_)
 refine aV (aV ?_)
 refine az (leq _ _ _ _) (fun h12 => ?_) (fun h12 => ?_)
 refine aU (aK ?_)
 refine ak (rP _ (by omega)) ?_
 refine ak (kC (by kernel_rfl) (by kernel_rfl) (by omega)) ?_
 refine ak (dJ _ (by omega)) ?_
 refine hJ1 _ _ ?_
 exact ⟨(congrArg (Value.int .i64) (by unfold Gs.lH; (rw [if_pos (by omega)] <;> omega))), hF⟩
 refine aU (aH ?_)
 refine az (geq _ _ _ _) (fun h13 => ?_) (fun h13 => ?_)
 refine aV (aV ?_)
 refine az (leq _ _ _ _) (fun h14 => ?_) (fun h14 => ?_)
 refine aU (aK ?_)
 refine ak (rP _ (by omega)) ?_
 refine ak (kC (by kernel_rfl) (by kernel_rfl) (by omega)) ?_
 refine ak (dJ _ (by omega)) ?_
 refine hJ1 _ _ ?_
 exact ⟨(congrArg (Value.int .i64) (by unfold Gs.lH; (rw [if_pos (by omega)] <;> omega))), hF⟩
 refine aU (aH ?_)
 refine hJ1 _ _ ?_
 exact ⟨(congrArg (Value.int .i64) (by unfold Gs.lH; (rw [if_pos (by omega)] <;> omega))), hF⟩
 refine aP (aP (aQ (aH ?_)))
 refine hJ1 _ _ ?_
 exact ⟨(congrArg (Value.int .i64) (by unfold Gs.lH; (rw [if_pos (by omega)] <;> omega))), hF⟩
 refine aP (aP (aQ (aH ?_)))
 refine az (geq _ _ _ _) (fun h15 => ?_) (fun h15 => ?_)
 refine aV (aV ?_)
 refine az (leq _ _ _ _) (fun h16 => ?_) (fun h16 => ?_)
 refine aU (aK ?_)
 refine ak (rP _ (by omega)) ?_
 refine ak (kC (by kernel_rfl) (by kernel_rfl) (by omega)) ?_
 refine ak (dJ _ (by omega)) ?_
 refine hJ1 _ _ ?_
 exact ⟨(congrArg (Value.int .i64) (by unfold Gs.lH; (rw [if_pos (by omega)] <;> omega))), hF⟩
 refine aU (aH ?_)
 refine hJ1 _ _ ?_
 exact ⟨(congrArg (Value.int .i64) (by unfold Gs.lH; (rw [if_pos (by omega)] <;> omega))), hF⟩
 refine aP (aP (aQ (aH ?_)))
 refine hJ1 _ _ ?_
 exact ⟨(congrArg (Value.int .i64) (by unfold Gs.lH; (rw [if_pos (by omega)] <;> omega))), hF⟩
 refine aP (aP (aQ (aH ?_)))
 refine az (geq _ _ _ _) (fun h17 => ?_) (fun h17 => ?_)
 refine aV (aV ?_)
 refine az (leq _ _ _ _) (fun h18 => ?_) (fun h18 => ?_)
 refine aU (aK ?_)
 refine ak (rP _ (by omega)) ?_
 refine ak (kC (by kernel_rfl) (by kernel_rfl) (by omega)) ?_
 refine ak (dJ _ (by omega)) ?_
 refine hJ1 _ _ ?_
 exact ⟨(congrArg (Value.int .i64) (by unfold Gs.lH; (rw [if_neg (by omega), if_pos (by omega)] <;> omega))), hF⟩
 refine aU (aH ?_)
 refine az (geq _ _ _ _) (fun h19 => ?_) (fun h19 => ?_)
 refine aV (aV ?_)
 refine az (leq _ _ _ _) (fun h20 => ?_) (fun h20 => ?_)
 refine aU (aK ?_)
 refine ak (rP _ (by omega)) ?_
 refine ak (kC (by kernel_rfl) (by kernel_rfl) (by omega)) ?_
 refine ak (dJ _ (by omega)) ?_
 refine hJ1 _ _ ?_
 exact ⟨(congrArg (Value.int .i64) (by unfold Gs.lH; (rw [if_neg (by omega), if_neg (by omega), if_pos (by omega)] <;> omega))), hF⟩
 refine aU (aH ?_)
 refine az (geq _ _ _ _) (fun h21 => ?_) (fun h21 => ?_)
 refine aV (aV ?_)
 refine az (leq _ _ _ _) (fun h22 => ?_) (fun h22 => ?_)
 refine aU (aK ?_)
 refine ak (rP _ (by omega)) ?_
 refine ak (kC (by kernel_rfl) (by kernel_rfl) (by omega)) ?_
 refine ak (dJ _ (by omega)) ?_
 refine hJ1 _ _ ?_
 exact ⟨(congrArg (Value.int .i64) (by unfold Gs.lH; (rw [if_pos (by omega)] <;> omega))), hF⟩
 refine aU (aH ?_)
 refine hJ1 _ _ ?_
 exact ⟨(congrArg (Value.int .i64) (by unfold Gs.lH; (rw [if_neg (by omega), if_neg (by omega), if_neg (by omega), if_neg (by omega)]))), hF⟩
 refine aP (aP (aQ (aH ?_)))
 refine hJ1 _ _ ?_
 exact ⟨(congrArg (Value.int .i64) (by unfold Gs.lH; (rw [if_pos (by omega)] <;> omega))), hF⟩
 refine aP (aP (aQ (aH ?_)))
 refine az (geq _ _ _ _) (fun h23 => ?_) (fun h23 => ?_)
 refine aV (aV ?_)
 refine az (leq _ _ _ _) (fun h24 => ?_) (fun h24 => ?_)
 refine aU (aK ?_)
 refine ak (rP _ (by omega)) ?_
 refine ak (kC (by kernel_rfl) (by kernel_rfl) (by omega)) ?_
 refine ak (dJ _ (by omega)) ?_
 refine hJ1 _ _ ?_
 exact ⟨(congrArg (Value.int .i64) (by unfold Gs.lH; (rw [if_pos (by omega)] <;> omega))), hF⟩
 refine aU (aH ?_)
 refine hJ1 _ _ ?_
 exact ⟨(congrArg (Value.int .i64) (by unfold Gs.lH; (rw [if_neg (by omega), if_neg (by omega), if_neg (by omega), if_neg (by omega)]))), hF⟩
 refine aP (aP (aQ (aH ?_)))
 refine hJ1 _ _ ?_
 exact ⟨(congrArg (Value.int .i64) (by unfold Gs.lH; (rw [if_pos (by omega)] <;> omega))), hF⟩
 refine aP (aP (aQ (aH ?_)))
 refine az (geq _ _ _ _) (fun h25 => ?_) (fun h25 => ?_)
 refine aV (aV ?_)
 refine az (leq _ _ _ _) (fun h26 => ?_) (fun h26 => ?_)
 refine aU (aK ?_)
 refine ak (rP _ (by omega)) ?_
 refine ak (kC (by kernel_rfl) (by kernel_rfl) (by omega)) ?_
 refine ak (dJ _ (by omega)) ?_
 refine hJ1 _ _ ?_
 exact ⟨(congrArg (Value.int .i64) (by unfold Gs.lH; (rw [if_pos (by omega)] <;> omega))), hF⟩
 refine aU (aH ?_)
 refine az (geq _ _ _ _) (fun h27 => ?_) (fun h27 => ?_)
 refine aV (aV ?_)
 refine az (leq _ _ _ _) (fun h28 => ?_) (fun h28 => ?_)
 refine aU (aK ?_)
 refine ak (rP _ (by omega)) ?_
 refine ak (kC (by kernel_rfl) (by kernel_rfl) (by omega)) ?_
 refine ak (dJ _ (by omega)) ?_
 refine hJ1 _ _ ?_
 exact ⟨(congrArg (Value.int .i64) (by unfold Gs.lH; (rw [if_pos (by omega)] <;> omega))), hF⟩
 refine aU (aH ?_)
 refine hJ1 _ _ ?_
 exact ⟨(congrArg (Value.int .i64) (by unfold Gs.lH; (rw [if_pos (by omega)] <;> omega))), hF⟩
 refine aP (aP (aQ (aH ?_)))
 refine hJ1 _ _ ?_
 exact ⟨(congrArg (Value.int .i64) (by unfold Gs.lH; (rw [if_pos (by omega)] <;> omega))), hF⟩
 refine aP (aP (aQ (aH ?_)))
 refine az (geq _ _ _ _) (fun h29 => ?_) (fun h29 => ?_)
 refine aV (aV ?_)
 refine az (leq _ _ _ _) (fun h30 => ?_) (fun h30 => ?_)
 refine aU (aK ?_)
 refine ak (rP _ (by omega)) ?_
 refine ak (kC (by kernel_rfl) (by kernel_rfl) (by omega)) ?_
 refine ak (dJ _ (by omega)) ?_
 refine hJ1 _ _ ?_
 exact ⟨(congrArg (Value.int .i64) (by unfold Gs.lH; (rw [if_neg (by omega), if_neg (by omega), if_neg (by omega), if_pos (by omega)] <;> omega))), hF⟩
 refine aU (aH ?_)
 refine hJ1 _ _ ?_
 exact ⟨(congrArg (Value.int .i64) (by unfold Gs.lH; (rw [if_neg (by omega), if_neg (by omega), if_neg (by omega), if_neg (by omega)]))), hF⟩
 refine aP (aP (aQ (aH ?_)))
 refine hJ1 _ _ ?_
 exact ⟨(congrArg (Value.int .i64) (by unfold Gs.lH; (rw [if_neg (by omega), if_neg (by omega), if_neg (by omega), if_neg (by omega)]))), hF⟩
 obtain ⟨g3, hF⟩ := hI
 rw [g3]
 exact ⟨rfl, hF⟩
theorem Ec {b : Int} {w : World} :
    oX 41 #[Z.u b] w fun e w' => e = .returned (.string (Gs.AP b)) ∧ aB no w w' := by
 refine F41.calls ?_
 unfold F41
 have hF : aB no w w := Fr.refl _ _ _
 refine az (dh _ _ _ _ _) (fun h1 => ?_) (fun h1 => ?_)
 refine aK ?_
 exact ⟨congrArg (fun r => Ending.returned (.string r)) (by unfold Gs.AP; rw [if_pos (by omega)]), hF⟩
 refine aH ?_
 refine az (dh _ _ _ _ _) (fun h3 => ?_) (fun h3 => ?_)
 refine aK ?_
 exact ⟨congrArg (fun r => Ending.returned (.string r)) (by unfold Gs.AP; rw [if_neg (by omega), if_pos (by omega)]), hF⟩
 refine aH ?_
 refine az (dh _ _ _ _ _) (fun h5 => ?_) (fun h5 => ?_)
 refine aK ?_
 exact ⟨congrArg (fun r => Ending.returned (.string r)) (by unfold Gs.AP; rw [if_neg (by omega), if_neg (by omega), if_pos (by omega)]), hF⟩
 refine aH ?_
 refine az (dh _ _ _ _ _) (fun h7 => ?_) (fun h7 => ?_)
 refine aK ?_
 exact ⟨congrArg (fun r => Ending.returned (.string r)) (by unfold Gs.AP; rw [if_neg (by omega), if_neg (by omega), if_neg (by omega), if_pos (by omega)]), hF⟩
 refine aH ?_
 refine az (dh _ _ _ _ _) (fun h9 => ?_) (fun h9 => ?_)
 refine aK ?_
 exact ⟨congrArg (fun r => Ending.returned (.string r)) (by unfold Gs.AP; rw [if_neg (by omega), if_neg (by omega), if_neg (by omega), if_neg (by omega), if_pos (by omega)]), hF⟩
 refine aH ?_
 exact ⟨congrArg (fun r => Ending.returned (.string r)) (by unfold Gs.AP; rw [if_neg (by omega), if_neg (by omega), if_neg (by omega), if_neg (by omega), if_neg (by omega)]), hF⟩
theorem zD {b : Int} {w : World} (hb : 0 ≤ b ∧ b ≤ 255) :
    oX 40 #[Z.u b] w fun e w' => e = .returned (.string (Gs.AQ b)) ∧ aB no w w' := by
 refine F40.calls ?_
 unfold F40
 have hab := Gs.YY b
 have hF : aB no w w := Fr.refl _ _ _
 refine aA (JA hb) (fun w1 U1 => ?_)
 refine az (gtr _ _ _ _) (fun h2 => ?_) (fun h2 => ?_)
 refine aK ?_
 refine aA (afK (n := Gs.lH b) (by omega)) (fun w3 U3 => ?_)
 refine ak (Q4 (by have h2 := Gs.Ye (n := Gs.lH b) (by omega); have h3 : (⟨#[80, 70]⟩ : ByteArray).size = 2 := rfl; omega)) ?_
 replace hF := (hF.go0 U1).go0 U3
 exact ⟨congrArg (fun r => Ending.returned (.string r)) (by unfold Gs.AQ; rw [if_pos (by omega)]), hF⟩
 refine aH ?_
 refine aA (Ec) (fun w6 U6 => ?_)
 replace hF := (hF.go0 U1).go0 U6
 exact ⟨congrArg (fun r => Ending.returned (.string r)) (by unfold Gs.AQ; rw [if_neg (by omega)]), hF⟩
theorem PX {b : Int} {w : World} (hb : 0 ≤ b ∧ b ≤ 255) :
    oX 127 #[.agg #[Z.i 17, Z.u b]] w fun e w' => e = .returned (.string (Gs.AQ b)) ∧ aB no w w' := by
 refine aa0.calls ?_
 unfold aa0
 have hF : aB no w w := Fr.refl _ _ _
 refine Z.x (#[Z.i 17, Z.u b]) (fun b1 w1 e1 ah _ U1 => ?_)
 refine Z.f 0 ?_
 refine Z.l ah ?_
 refine qf (dh _ _ _ _ _) (rfl) ?_
 refine aK ?_
 refine Z.f 1 ?_
 refine Z.l ah ?_
 refine aA (zD hb) (fun w2 U2 => ?_)
 replace hF := (hF.go0 U1).go0 U2
 exact ⟨rfl, hF⟩
theorem GK {b : Int} {w : World} (hb : 0 ≤ b ∧ b ≤ 255) :
    oX 75 #[Z.u b] w fun e w' => e = .returned (.string (Gs.EQ b)) ∧ aB no w w' := by
 refine F75.calls ?_
 unfold F75
 have hF : aB no w w := Fr.refl _ _ _
 refine ak (bF (l := [(0, 1), (1, 1)]) (z := #[Z.i 0, Z.u 0]) (by kernel_rfl) (by (simp [eH, splice, fO, Value.cells, Gs.cv]; rfl))) ?_
 refine aA (PX hb) (fun w1 U1 => ?_)
 refine az (neS _ _ _ _) (fun h2 => ?_) (fun h2 => ?_)
 refine aK ?_
 replace hF := hF.go0 U1
 exact ⟨congrArg (fun r => Ending.returned (.string r)) (by unfold Gs.EQ; rw [if_neg (by assumption)]), hF⟩
 refine aH ?_
 refine dV (S := no) (fun w4 U4 => ?_)
 refine bI (fun w' hw' => (ag4 _ _)) ?_
 refine bI (fun w' hw' => (ag4 _ _)) ?_
 refine bI (fun w' hw' => (adw _ (by omega))) ?_
 refine bI (fun w' hw' => (YZ (s := Gs.Q5) (by kernel_rfl) (by omega) (by omega) (by show _ ≤ ((16 : Nat) : Int); omega))) ?_
 refine bI (fun w' hw' => (YH _ (by omega))) ?_
 refine bI (fun w' hw' => (YH _ (by omega))) ?_
 refine bI (fun w' hw' => (adw _ (by omega))) ?_
 refine bI (fun w' hw' => (YZ (s := Gs.Q5) (by kernel_rfl) (by omega) (by omega) (by show _ ≤ ((16 : Nat) : Int); omega))) ?_
 refine bI (fun w' hw' => (Q4 (by have := Gs.SI hb.1; omega))) ?_
 refine aJ (fun w8 U8 => ?_)
 replace hF := ((hF.go0 U1).go0 U4).go0 U8
 exact ⟨congrArg (fun r => Ending.returned (.string r)) (by unfold Gs.EQ; (rw [if_pos (Classical.not_not.1 (by assumption))]; rfl)), hF⟩
end Go.Proofs.YtjdoakbadehicaaGreatDoor
end
section
namespace Gs
open Go
end Gs
end
section
namespace Gs
open Go
theorem VW {cs : List Cell} {k : Nat} {x : su} (h : (allM cs)[k]? = some x) : ∃ s, (dm cs)[k]? = some s ∧ x = lG cs s := by
 have hk := (List.getElem?_eq_some_iff.1 h).1
 rw [Oe] at hk
 exact ⟨_, List.getElem?_eq_getElem hk, by have := GI (List.getElem?_eq_getElem hk); rw [h] at this; exact Option.some.inj this⟩
theorem VX {cs : List Cell} {k s : Nat} (h : (dm cs)[k]? = some s) : (0 ≤ (s : Int) ∧ (s : Int) < cs.length) ∧ stB cs s = true := by
 have := uT.1 (List.mem_of_getElem? h)
 exact ⟨by omega, this.2⟩
theorem aoo {cs : List Cell} {k : Nat} {x : su} (hx : (allM cs)[k]? = some x) : (0 ≤ x.s ∧ x.s < cs.length) ∧ stB cs x.s = true := by
 obtain ⟨s, hs, rfl⟩ := VW hx
 exact VX hs
end Gs
end
section
namespace Gs
open Go
theorem all_in {cs : List Cell} {k : Nat} {x : su} (hx : (allM cs)[k]? = some x) : (0 ≤ x.s ∧ x.s < cs.length) ∧ 0 ≤ x.l ∧ x.l < cs.length ∧ x = lG cs x.s := by
 obtain ⟨s, hs, rfl⟩ := VW hx
 obtain ⟨h0, hst⟩ := VX hs
 obtain ⟨L, h1, h2, _⟩ := len_eq h0 hst
 refine ⟨h0, ?_, ?_, rfl⟩
 ·show 0 ≤ wU cs s; omega
 ·show wU cs s < cs.length; omega
theorem abR {cs : List Cell} {k : Nat} {x : su} (hx : (allM cs)[k]? = some x) : ((iP cs.length x).length : Int) = x.l := by
 have h := all_in hx
 rw [uP h.1]; omega
end Gs
end
section
namespace Gs
open Go
def Ol (p n : Int) : List Int := match xG p n with | some (a, b) => [a, b] | none => [0, 0]
def FU (f : su) : Bool := decide (f.a % 2 = 1)
def jA (cs : List Cell) : List Int := (List.range cs.length).map Int.ofNat
def P9 (cs : List Cell) : List (Int × List Cell) :=
 if allM cs = [] then (if KE cs (jA cs) = [] then [] else [(-1, KE cs (jA cs))])
 else ((allM cs).filter FU).map fun f => ((f.s + 1) % cs.length, KE cs (iP cs.length f))
def GM (cs : List Cell) (f : su) : List Int := 17 :: Ol ((f.s + 1) % cs.length) cs.length ++ mZ cs (iP cs.length f)
def allB (cs : List Cell) (cur jf : Int) : List Int := jf :: Ol cur cs.length ++ (if allM cs = [] then mZ cs (jA cs) else ((allM cs).filter FU).flatMap (GM cs))
theorem SB {cs : List Cell} {k : Nat} {f : su} (hf : (allM cs)[k]? = some f) : ∀ i ∈ iP cs.length f, (bH cs i).st = false := by
 intro i hi
 obtain ⟨⟨h0, h1⟩, hl0, hl1, he⟩ := all_in hf
 obtain ⟨j, hj⟩ := List.getElem?_of_mem hi
 have hjl := (List.getElem?_eq_some_iff.1 hj).1
 rw [yU hjl] at hj
 have hpl := abR hf
 have hlen : f.l = wU cs f.s := congrArg su.l he
 cases hst : (bH cs i).st with
 | false => rfl
 | true =>
  exfalso
  have hi0 := Ie (show (iP cs.length f)[j]? = some i from by rw [yU hjl, hj])
  have h2 := VM hi0 hst
  have h3 := VY ⟨h0, h1⟩ (aoo hf).2 (j := j + 1) (by omega)
  rw [Option.some.inj hj, h2] at h3
  have h4 := Option.some.inj hj
  rw [h3] at h4
  have hm := kM (f.s + ((j + 1 : Nat) : Int)) (N := cs.length) (by omega)
  by_cases hw : f.s + ((j + 1 : Nat) : Int) < cs.length
  ·rw [Int.emod_eq_of_lt (by omega) hw] at h4; omega
  ·rw [← Int.sub_emod_right, Int.emod_eq_of_lt (by omega) (by omega)] at h4; omega
def ig (c : Cell) : List Int := if c.st then [29, jV c.b] else nK c
def vT (cs : List Cell) (cur jf : Int) : List Int := jf :: Ol cur cs.length ++ cs.flatMap ig
end Gs
end
section
namespace Go.Sh
open Go
variable {P : Program} {R : Ending → World → Prop} {K : Value → World → Prop} {w : World}
def yP (T : Nat) (x : Int) : List PanicEntry := [{ v := .iface T (.agg #[.int .i64 x]), recovered := false }]
theorem iy {f : FuncId} {args : Array Value} {T : Nat} {D : Value → World → Prop} {E : Int → World → Prop}
  (hc : Calls P f args w fun e w' => (∃ v, e = .returned v ∧ D v w') ∨ ∃ x, e = .panicked (yP T x) ∧ E x w') (h : ∀ v w', D v w' → K v w') (hp : ∀ x w', E x w' → R (.panicked (yP T x)) w') : lh P f args w R K :=
 hc.mono fun e w' he => by
  rcases he with ⟨v, rfl, hd⟩ | ⟨x, rfl, hx⟩
  ·exact h v w' hd
  ·exact hp x w' hx
theorem zg {t : TypeId} {v : Value} (h : R (.panicked [{ v := .iface t v, recovered := false }]) w) : bi ((Instr.panic (.iface t v)).run P w) R K := by
 have : (Instr.panic (.iface t v)).run P w = .halt (.panic (.iface t v)) w := rfl
 rw [this]; exact h
theorem y9 {t : TypeId} {x : Value} (h : P.concrete t = true) : (Instr.makeInterface t x).run P w = .ok (.iface t x) w := run_makeInterface w t x h
theorem tV {t n cap : Nat} {A : Option Addr} {xs : List Int} {k k1 : IntKind} {lo : Int} (ht : yR P t = some 1) (hr : Rd w A (vals k xs)) (hl : n = xs.length) (h0 : 0 ≤ lo) (h1 : lo ≤ n) (hc : n ≤ cap)
  (h : ∀ A', Rd w A' (vals k (xs.drop lo.toNat)) → (∀ k, fC A' k → fC A k) → K (.slice A' (n - lo.toNat) (cap - lo.toNat)) w) :
  bi ((Instr.sliceAt t (.slice A n cap) (some (.int k1 lo)) none none).run P w) R K := by
 unfold yR at ht
 split at ht
 ·rename_i e hu
  have hel : P.elem t = e := by simp [Program.elem, hu]
  have hu' : P.underlying t = some (.slice (P.elem t)) := by rw [hel]; exact hu
  have hr1 := run_slice_l (P := P) w t A n cap hu' k1 lo h0 h1
  rw [sK (P := P) (w := w) (by rw [hel]; exact ht)] at hr1
  have hr2 := run_sliceAt_slice (P := P) w t (.slice A n cap) (some (.int k1 lo)) none none hu'
  rw [hr1] at hr2
  refine ak (v := sliced A lo.toNat n cap 1) (w' := w) hr2 (h _ ?_ ?_)
  ·subst hl
   by_cases he : cap = lo.toNat
   ·have : lo.toNat = xs.length := by omega
    left
    simp [vals, this]
   ·rw [if_neg he]
    cases A with
    | none =>
     rcases hr with hx | ⟨a, ha, _⟩
     ·have := congrArg List.length hx; rw [vals_length] at this; simp at this; subst this; left; simp [vals]
     ·cases ha
    | some a =>
     have := hr.drop lo.toNat
     rw [Nat.mul_one]
     simpa [vals, List.map_drop] using this
  ·intro k hk
   split at hk
   ·exact hk
   ·obtain ⟨a, ha, rfl⟩ := hk
    cases A with
    | none => cases ha
    | some a0 => cases ha; exact ⟨a0, rfl, by rw [add_block]⟩
 ·cases ht
def qY (T B : Nat) (w : World) (br : Nat) (bs : List Int) : Prop :=
 ∃ A c, w.heap[br]? = some (.cells #[.slice A bs.length c] T (0, 0)) ∧ Rd w A (vals .u8 bs) ∧ bs.length ≤ c ∧ Bs bs ∧ br < B ∧ (bs = [] ∨ ∀ k, fC A k → k < B ∧ k ≠ br)
theorem qY.lt {T B : Nat} {br : Nat} {bs : List Int} (h : qY T B w br bs) : br < B := by obtain ⟨A, c, _, _, _, _, h, _⟩ := h; exact h
theorem qY.bs {T B : Nat} {br : Nat} {bs : List Int} (h : qY T B w br bs) : Bs bs := by obtain ⟨A, c, _, _, _, h, _⟩ := h; exact h
theorem qY.upd {T B : Nat} {br : Nat} {bs : List Int} {S : Nat → Prop} {w' : World} (h : qY T B w br bs) (u : aB S w w') (hS : ∀ k, k < B → ¬ S k) : qY T B w' br bs := by
 obtain ⟨A, c, h1, h2, h3, h4, h5, h6⟩ := h
 refine ⟨A, c, u.get h1 (hS _ h5), h2.dO u ?_, h3, h4, h5, h6⟩
 exact h6.imp (fun e => by rw [e]; rfl) (fun h k hk => hS k (h k hk).1)
theorem qY.ai {T B : Nat} {br : Nat} {bs : List Int} {w' : World} (h : qY T B w br bs) (u : aB no w w') : qY T B w' br bs := h.upd u (fun _ _ h => h)
theorem qY.mono {T B B' : Nat} {br : Nat} {bs : List Int} (h : qY T B w br bs) (hB : B ≤ B') : qY T B' w br bs := by
 obtain ⟨A, c, h1, h2, h3, h4, h5, h6⟩ := h
 exact ⟨A, c, h1, h2, h3, h4, by omega, h6.imp_right fun h k hk => ⟨by have := (h k hk).1; omega, (h k hk).2⟩⟩
end Go.Sh
namespace Gs
open Go Go.Sh
structure It where
 at' : Int
 A : Option Addr
 cp : Nat
 cs : List Cell
def ie (x : It) : List Value := [.int .i64 x.at', .slice x.A x.cs.length x.cp]
theorem LY : Enc ie 2 := ⟨fun _ => rfl, fun a u hu => by
 simp only [ie, List.mem_cons, List.mem_nil_iff, or_false] at hu
 rcases hu with rfl | rfl <;> rfl, by decide⟩
def its (l : List It) : List (Int × List Cell) := l.map fun x => (x.at', x.cs)
def Cl (w : World) (l : List It) : Prop := ∀ x ∈ l, Rd w x.A (rows cv x.cs)
def vk (l : List It) (k : Nat) : Prop := ∃ x ∈ l, x.cs ≠ [] ∧ fC x.A k
def Y8 (l : List It) (B : Nat) : Prop := l = [] ∨ ∀ k, vk l k → k < B
theorem Y8.ne {l : List It} {B : Nat} (h : Y8 l B) {b : Nat} (hb : B ≤ b) : l = [] ∨ ∀ k, vk l k → k ≠ b := h.imp_right fun h k hk => by have := h k hk; omega
theorem Y8.mono {l : List It} {B B' : Nat} (h : Y8 l B) (hb : B ≤ B') : Y8 l B' := h.imp_right fun h k hk => by have := h k hk; omega
theorem aos {cs : List Cell} (h : cs ≠ []) : rows cv cs ≠ [] := fun e => by
 have := congrArg List.length e
 rw [iQ zF] at this
 cases cs
 ·exact h rfl
 ·simp at this
theorem Cl.lt {w : World} {l : List It} (h : Cl w l) : Y8 l w.heap.size := by
 refine .inr fun k ⟨x, hx, hne, hk⟩ => ?_
 rcases (h x hx).lt with h2 | h2
 ·exact absurd h2 (aos hne)
 ·exact h2 k hk
theorem Cl.dO {S : Nat → Prop} {w w' : World} {l : List It} (h : Cl w l) (u : aB S w w') (hs : l = [] ∨ ∀ k, vk l k → ¬ S k) : Cl w' l := by
 intro x hx
 refine (h x hx).dO u ?_
 by_cases hc : x.cs = []
 ·left; rw [hc]; rfl
 ·right
  rcases hs with rfl | hs
  ·cases hx
  ·exact fun k hk => hs k ⟨x, hx, hc, hk⟩
theorem Cl.ai {w w' : World} {l : List It} (h : Cl w l) (u : aB no w w') : Cl w' l := h.dO u (.inr fun _ _ => id)
theorem Cl.aF {w w' : World} {l : List It} {b : Nat} (h : Cl w l) (u : aB (· = b) w w') (hs : l = [] ∨ ∀ k, vk l k → k ≠ b) : Cl w' l := h.dO u hs
theorem Cl.apart {w : World} {l : List It} (h : Cl w l) {b : Nat} (hb : b = w.heap.size) : l = [] ∨ ∀ k, vk l k → k ≠ b := h.lt.ne (by omega)
theorem Cl.get {w : World} {l : List It} (h : Cl w l) {k : Nat} {x : It} (hx : l[k]? = some x) : Rd w x.A (rows cv x.cs) := h x (List.mem_of_getElem? hx)
theorem Cl.nil (w : World) : Cl w [] := fun x hx => by cases hx
theorem Cl.snoc {w : World} {l : List It} {x : It} (h : Cl w l) (hx : Rd w x.A (rows cv x.cs)) : Cl w (l ++ [x]) := fun y hy => by
 rcases List.mem_append.1 hy with hy | hy
 ·exact h y hy
 ·rw [List.mem_singleton.1 hy]; exact hx
def Iw (l : List It) : Prop := ∀ x ∈ l, je x.cs
theorem Iw.get {l : List It} (h : Iw l) {k : Nat} {x : It} (hx : l[k]? = some x) : je x.cs := h x (List.mem_of_getElem? hx)
theorem LZ (l : List It) : (its l).length = l.length := by simp [its]
theorem afX (l : List It) (x : It) : its (l ++ [x]) = its l ++ [(x.at', x.cs)] := by simp [its]
def fG : List Int → Except Int (Int × List Int)
 | [] => .error 20
 | c :: r => .ok (c, r)
theorem afO {bs : List Int} {c : Int} (h : bs[0]? = some c) : fG bs = .ok (c, bs.drop 1) := by
 cases bs with
 | nil => cases h
 | cons a r => cases h; rfl
theorem dU {bs r : List Int} {c : Int} (h : fG bs = .ok (c, r)) : bs = c :: r := by
 cases bs with
 | nil => cases h
 | cons a l => cases h; rfl
theorem rQ {bs : List Int} {x : Int} (h : fG bs = .error x) : bs = [] ∧ x = 20 := by
 cases bs with
 | nil => cases h; exact ⟨rfl, rfl⟩
 | cons a l => cases h
end Gs
namespace Gs
open Go Go.Sh
theorem alV {S' : World} {v v' : Value} {l : List It} (old : l = [] ∨ ∀ k, vk l k → ¬ aG v k) (lt : Cl S' l) (hA : ∀ k, aG v' k → aG v k ∨ S'.heap.size ≤ k) : l = [] ∨ ∀ k, vk l k → ¬ aG v' k := by
 rcases old with h | h
 ·exact .inl h
 ·rcases lt.lt with h2 | h2
  ·exact .inl h2
  ·refine .inr fun k hk ho => ?_
   rcases hA k ho with h3 | h3
   ·exact h k hk h3
   ·have := h2 k hk; omega
theorem Oj {l : List It} {x : It} {k : Nat} (h : vk (l ++ [x]) k) : vk l k ∨ (x.cs ≠ [] ∧ fC x.A k) := by
 obtain ⟨y, hy, h⟩ := h
 rcases List.mem_append.1 hy with hy | hy
 ·exact .inl ⟨y, hy, h⟩
 ·rw [List.mem_singleton.1 hy] at h; exact .inr h
def rdL (w : World) (br : Nat) : Nat := match w.heap[br]? with | some (.cells cs _ _) => (match cs.toList with | Value.slice _ n _ :: _ => n | _ => 0) | _ => 0
theorem LW {T B : Nat} {w : World} {br : Nat} {bs : List Int} (h : qY T B w br bs) : rdL w br = bs.length := by
 obtain ⟨A, c, h, _⟩ := h
 unfold rdL; rw [h]
theorem adz {l : List Int} (h : ¬ (0 : Int) < (l.length : Nat)) : l.head? = none := by
 have : l = [] := List.length_eq_zero_iff.1 (by omega)
 rw [this]; rfl
theorem We {l : List Int} {x : Int} (hx : l[0]? = some x) : l.head? = some x := by rw [List.head?_eq_getElem?]; exact hx
theorem Y2 {l : List Int} {x : Int} (hx : l[0]? = some x) (h : x ≠ 17) : ¬ (l.head? = none ∨ l.head? = some 17) := by
 rw [We hx]
 rintro (e | e)
 ·cases e
 ·exact h (Option.some.inj e)
def Ir (acc : List Cell) : Except Int (List Cell × List Int) → Except Int (List Cell × List Int)
 | .ok (xs, r) => .ok (acc ++ xs, r)
 | .error e => .error e
theorem afQ (x : Except Int (List Cell × List Int)) : x = Ir [] x := by cases x <;> rfl
theorem adQ {l r : List Int} {x : Cell} (h : ¬ (l.head? = none ∨ l.head? = some 17)) (hx : uU l = .ok (x, r)) : iV l = Ir [x] (iV r) := by
 conv => lhs; unfold iV
 rw [if_neg h]
 split
 ·rename_i e he; rw [hx] at he; cases he
 ·rename_i y r1 he
  rw [hx] at he
  cases he
  cases iV r <;> rfl
theorem ab8 {l : List Int} {e : Int} (h : ¬ (l.head? = none ∨ l.head? = some 17)) (hx : uU l = .error e) : iV l = .error e := by
 unfold iV
 rw [if_neg h]
 split
 ·rename_i e2 he; rw [hx] at he; cases he; rfl
 ·rename_i y r1 he; rw [hx] at he; cases he
theorem ab9 {l : List Int} (h : l.head? = none ∨ l.head? = some 17) : iV l = .ok ([], l) := by unfold iV; rw [if_pos h]
theorem ady {bs l r : List Int} {acc : List Cell} {x : Cell} (hi : iV bs = Ir acc (iV l)) (h : ¬ (l.head? = none ∨ l.head? = some 17)) (hx : uU l = .ok (x, r)) : iV bs = Ir (acc ++ [x]) (iV r) := by
 rw [hi, adQ h hx]
 cases iV r <;> simp [Ir]
theorem V9 {bs l : List Int} {acc : List Cell} (hi : iV bs = Ir acc (iV l)) (h : l.head? = none ∨ l.head? = some 17) : iV bs = .ok (acc, l) := by
 rw [hi, ab9 h]; simp [Ir]
theorem afR {bs l : List Int} {acc : List Cell} {e : Int} (hi : iV bs = Ir acc (iV l)) (h : ¬ (l.head? = none ∨ l.head? = some 17)) (hx : uU l = .error e) : iV bs = .error e := by
 rw [hi, ab8 h hx]; rfl
theorem abW {r : List Int} {x : Int} (h : fG r = .error x) : uU (8 :: r) = .error x := by
 obtain ⟨rfl, rfl⟩ := rQ h; rfl
theorem je.snoc {l : List Cell} {x : Cell} (h : je l) (hx : 0 ≤ x.b ∧ x.b ≤ 255) : je (l ++ [x]) := fun y hy => by
 rcases List.mem_append.1 hy with hy | hy
 ·exact h y hy
 ·rw [List.mem_singleton.1 hy]; exact hx
theorem Iw.snoc {l : List It} {x : It} (h : Iw l) (hx : je x.cs) : Iw (l ++ [x]) := fun y hy => by
 rcases List.mem_append.1 hy with hy | hy
 ·exact h y hy
 ·rw [List.mem_singleton.1 hy]; exact hx
def afS (p : Int) : Except Int (List Cell × List Int) → Except Int ((Int × List Cell) × List Int)
 | .ok (xs, r) => .ok ((p, xs), r)
 | .error e => .error e
theorem SQ (r : List Int) : sU (17 :: r) = match kY r with | .error e => .error e | .ok (p, r) => (match iV r with | .error e => .error e | .ok (xs, r') => .ok ((p, xs), r')) := rfl
theorem afT {l r r2 : List Int} {c p : Int} (h : fG l = .ok (c, r)) (hc : c = 17) (hp : kY r = .ok (p, r2)) : sU l = afS p (iV r2) := by
 rw [dU h, hc, SQ, hp]
 dsimp only
 cases iV r2 <;> rfl
theorem abY {l r : List Int} {c e : Int} (h : fG l = .ok (c, r)) (hc : c = 17) (hp : kY r = .error e) : sU l = .error e := by
 rw [dU h, hc, SQ, hp]
theorem afU {l : List Int} {x : Int} (hx : l[0]? = some x) (h : ¬ x = 17) : sU l = afS (-1) (iV l) := by
 unfold sU
 rw [if_neg (by rw [We hx]; exact fun e => h (Option.some.inj e))]
 cases iV l <;> rfl
def Iu (acc : List (Int × List Cell)) : Except Int (List (Int × List Cell)) → Except Int (List (Int × List Cell))
 | .ok xs => .ok (acc ++ xs)
 | .error e => .error e
theorem adR {l r : List Int} {x : Int × List Cell} (h : l ≠ []) (hx : sU l = .ok (x, r)) : kw l = Iu [x] (kw r) := by
 conv => lhs; unfold kw
 rw [dif_neg h]
 split
 ·rename_i e he; rw [hx] at he; cases he
 ·rename_i y r1 he
  rw [hx] at he
  cases he
  cases kw r <;> rfl
theorem aca {l : List Int} {e : Int} (h : l ≠ []) (hx : sU l = .error e) : kw l = .error e := by
 unfold kw
 rw [dif_neg h]
 split
 ·rename_i e2 he; rw [hx] at he; cases he; rfl
 ·rename_i y r1 he; rw [hx] at he; cases he
theorem adD {bs l r : List Int} {acc : List (Int × List Cell)} {x : Int × List Cell} (hi : kw bs = Iu acc (kw l)) (h : l ≠ []) (hx : sU l = .ok (x, r)) : kw bs = Iu (acc ++ [x]) (kw r) := by
 rw [hi, adR h hx]
 cases kw r <;> simp [Iu]
theorem afZ {bs l : List Int} {acc : List (Int × List Cell)} (hi : kw bs = Iu acc (kw l)) (h : l = []) : kw bs = .ok acc := by
 rw [hi, h]; unfold kw; rw [dif_pos rfl]; simp [Iu]
theorem afY {bs l : List Int} {acc : List (Int × List Cell)} {e : Int} (hi : kw bs = Iu acc (kw l)) (h : l ≠ []) (hx : sU l = .error e) : kw bs = .error e := by
 rw [hi, aca h hx]; rfl
theorem afV (x : Except Int (List (Int × List Cell))) : x = Iu [] x := by cases x <;> rfl
theorem abZ {bs r : List Int} {a : Int} (h : fG bs = .ok (a, r)) (hr : r = []) : xP bs = .ok ⟨a, true, 0, []⟩ := by
 rw [dU h, hr]; rfl
theorem adF {bs r : List Int} {a e : Int} (h : fG bs = .ok (a, r)) (hr : r ≠ []) (hp : kY r = .error e) : xP bs = .error e := by
 rw [dU h]
 unfold xP
 dsimp only
 rw [if_neg hr, hp]
theorem ajA {bs r r2 : List Int} {a c : Int} {xs : List (Int × List Cell)} (h : fG bs = .ok (a, r)) (hr : r ≠ []) (hp : kY r = .ok (c, r2)) (hx : kw r2 = .ok xs) : xP bs = .ok ⟨a, false, c, xs⟩ := by
 rw [dU h]
 unfold xP
 dsimp only
 rw [if_neg hr, hp]
 dsimp only
 rw [hx]
theorem adE {bs r r2 : List Int} {a c e : Int} (h : fG bs = .ok (a, r)) (hr : r ≠ []) (hp : kY r = .ok (c, r2)) (hx : kw r2 = .error e) : xP bs = .error e := by
 rw [dU h]
 unfold xP
 dsimp only
 rw [if_neg hr, hp]
 dsimp only
 rw [hx]
theorem alW {bs : List Int} {e : Int} (h : fG bs = .error e) : xP bs = .error e := by obtain ⟨rfl, rfl⟩ := rQ h; rfl
theorem afP {c : Int} {r : List Int} (h : dX c = false) (h8 : c ≠ 8) : uU (c :: r) = .error 21 := by
 unfold uU
 dsimp only
 rw [if_neg (by rw [h]; decide), if_pos h8]
theorem PZ {bs r : List Int} {c x : Int} (h : fG bs = .ok (c, r)) (hx : bs[0]? = some x) : c = x := by
 rw [dU h] at hx; exact Option.some.inj hx
theorem adB {l : List It} {y : It} {b n c : Nat} (h : l = [] ∨ ∀ k, vk l k → k ≠ b) (hx : ¬ aG (.slice y.A n c) b) : l ++ [y] = [] ∨ ∀ k, vk (l ++ [y]) k → k ≠ b := by
 refine .inr fun k hk e => ?_
 rcases Oj hk with h2 | ⟨_, a, ea, ek⟩
 ·rcases h with rfl | h
  ·obtain ⟨x, hx, _⟩ := h2; cases hx
  ·exact h k h2 e
 ·exact hx (by rw [ea]; subst e; subst ek; rfl)
theorem ajz {l : List It} {y : It} {v : Value} {n c : Nat} (h : l = [] ∨ ∀ k, vk l k → ¬ aG v k) (hx : ∀ k, aG v k → ¬ aG (.slice y.A n c) k) : l ++ [y] = [] ∨ ∀ k, vk (l ++ [y]) k → ¬ aG v k := by
 refine .inr fun k hk ho => ?_
 rcases Oj hk with h2 | ⟨_, a, ea, ek⟩
 ·rcases h with rfl | h
  ·obtain ⟨x, hx, _⟩ := h2; cases hx
  ·exact h k h2 ho
 ·exact hx k ho (by rw [ea]; subst ek; rfl)
theorem alS {l : List It} {y : It} {B n c : Nat} {w : World} {e size : Nat} {xs : List Value} (h : ∀ k, vk l k → B ≤ k) (ho : Own B w e size (.slice y.A n c) xs) : ∀ k, vk (l ++ [y]) k → B ≤ k := fun k hk =>
 (Oj hk).elim (h k) fun ⟨_, a, ea, ek⟩ => (Own.ge ho (k := k) (by rw [ea]; subst ek; rfl)).1
theorem Wh {α : Type} {l : List α} (h : ¬ ((l.length : Nat) : Int) = 0) : l ≠ [] := fun e => h (by rw [e]; rfl)
theorem ajx {α : Type} {l : List α} (h : (0 : Int) < ((l.length : Nat) : Int)) : l ≠ [] := fun e => by rw [e] at h; simp at h
end Gs
namespace Go.Sh
open Go
theorem ajF {r : Result Unit} {K : Value → World → Prop} (h : uw r (fun _ _ => False) K) : ∃ w', r = .ok () w' ∧ K undef w' := by
 cases r with
 | ok u w' => exact ⟨w', rfl, h⟩
 | halt s w' => cases s <;> exact h.elim
theorem UR {P : Program} {w : World} {t n : Nat} {v : Value} {b : Nat} {T : TypeId} {cs : Array Value} (hn : aY P t = some n) (hv : v.cells.size = n) (h1 : v.cells.all (·.oneCell') = true) (hb : w.heap[b]? = some (.cells cs T (0, 0))) (hl : cs.size = n) :
  ∃ w', (Instr.storeAt t (.pointer (some ⟨b, 0, none⟩)) v).run P w = .ok () w' ∧ w'.heap[b]? = some (.cells v.cells T (0, 0)) ∧ aB (· = b) w w' :=
 ajF (K := fun _ w' => w'.heap[b]? = some (.cells v.cells T (0, 0)) ∧ aB (· = b) w w') (iD (o := 0) (cs' := v.cells) hn hv h1 hb (by omega) (by
  have h2 : cs.toList.drop (0 + n) = [] := List.drop_eq_nil_of_le (by simp; omega)
  rw [h2]; simp) (fun w' a _ c => ⟨a, c⟩))
end Go.Sh
end
section
namespace Go.Sh
open Go
theorem wC.mono {A : Option Addr} {xs : List Value} {B B' : Nat} (h : wC A xs B') (hb : B ≤ B') : wC A xs B := h.imp_right fun h k hk => by have := h k hk; omega
end Go.Sh
namespace Gs
open Go Go.Sh
def Wj (l : List It) (B : Nat) : Prop := l = [] ∨ ∀ k, vk l k → B ≤ k
theorem Wj.ne {l : List It} {B b : Nat} (h : Wj l B) (hb : b < B) : l = [] ∨ ∀ k, vk l k → k ≠ b := h.imp_right fun h k hk => by have := h k hk; omega
theorem Wj.mono {l : List It} {B B' : Nat} (h : Wj l B') (hb : B ≤ B') : Wj l B := h.imp_right fun h k hk => by have := h k hk; omega
end Gs
namespace Go.Sh
open Go
variable {P : Program} {R : Ending → World → Prop} {K : Value → World → Prop} {w : World}
end Go.Sh
namespace Gs
open Go Go.Sh
end Gs
namespace Gs
open Go Go.Sh
end Gs
namespace Gs
open Go Go.Sh
end Gs
end
section
namespace Gs
open Go
theorem KF (p n : Int) : Ol p n = [(mV p n).1, (mV p n).2.1] := by
 unfold Ol mV
 cases h : xG p n with
 | none => rfl
 | some x => obtain ⟨a, b⟩ := x; rfl
theorem Oa (p n : Int) : (Ol p n).length = 2 := by rw [KF]; rfl
theorem af8 {c : Cell} (h : c.ge = true) (h2 : c.b < 64) : nK c = [8, 64] := by unfold nK; rw [if_pos h, if_pos h2]
theorem af9 {c : Cell} (h : c.ge = true) (h2 : ¬ c.b < 64) : nK c = [8, c.b] := by unfold nK; rw [if_pos h, if_neg h2]
theorem Wy {c : Cell} (h : c.ge = false) (h2 : ¬ dX c.b = true) : nK c = [64] := by unfold nK; rw [if_neg (by rw [h]; decide), if_neg h2]
theorem WA {c : Cell} (h : c.ge = false) (h2 : dX c.b = true) : nK c = [c.b] := by unfold nK; rw [if_neg (by rw [h]; decide), if_pos h2]
theorem BK (c : Cell) : (nK c).length ≤ 2 := by
 unfold nK
 repeat' split
 all_goals simp
theorem ajG {c : Cell} (h : c.b = 0) : (!c.ge) = qN c := by unfold qN; rw [decide_eq_true h]; rfl
theorem ajH {c : Cell} (h : ¬ c.b = 0) : false = qN c := by unfold qN; rw [decide_eq_false h]; rfl
theorem ajI {b : Int} (h : ¬ AP b = ⟨#[]⟩) : decide (¬ b = 125) = decide (b = 109 ∨ b = 108 ∨ b = 110 ∨ b = 107) := by
 refine decide_eq_decide.2 ⟨fun h2 => ?_, fun h2 => by omega⟩
 unfold AP at h
 repeat' split at h
 all_goals first | omega | exact absurd rfl h
theorem ajJ {b : Int} (h : ¬ ¬ AP b = ⟨#[]⟩) : false = decide (b = 109 ∨ b = 108 ∨ b = 110 ∨ b = 107) := by
 have h := Classical.not_not.1 h
 refine (decide_eq_false fun h2 => ?_).symm
 unfold AP at h
 repeat' split at h
 all_goals first | omega | exact absurd h (by decide)
theorem SS (cs : List Cell) (l m : List Int) : mZ cs (l ++ m) = mZ cs l ++ mZ cs m := by unfold mZ; rw [List.map_append, List.filter_append, List.flatMap_append]
theorem adS {cs : List Cell} {l : List Int} {k : Nat} {x : Int} (hx : l[k]? = some x) (h : qN (bH cs x) = true) : mZ cs (l.take k) = mZ cs (l.take (k + 1)) := by
 rw [← rf hx, SS]
 unfold mZ; simp [h]
theorem adT {cs : List Cell} {l : List Int} {k : Nat} {x : Int} (hx : l[k]? = some x) (h : qN (bH cs x) = false) : mZ cs (l.take k) ++ nK (bH cs x) = mZ cs (l.take (k + 1)) := by
 rw [← rf hx, SS]
 unfold mZ; simp [h]
theorem EX {α : Type} {f : α → List Int} {b : Nat} (hf : ∀ x, (f x).length ≤ b) : ∀ l : List α, (l.flatMap f).length ≤ b * l.length
 | [] => by simp
 | x :: l => by
  rw [List.flatMap_cons, List.length_append, List.length_cons, Nat.mul_add, Nat.mul_one]
  have := EX hf l
  have := hf x
  omega
theorem IB (cs : List Cell) (l : List Int) : (mZ cs l).length ≤ 2 * l.length := by
 unfold mZ
 refine Nat.le_trans (EX BK _) ?_
 have := List.length_filter_le (fun c => !qN c) (l.map (bH cs))
 rw [List.length_map] at this
 omega
theorem Bg (cs : List Cell) : (jA cs).length = cs.length := by simp [jA]
theorem CZ {cs : List Cell} {k : Nat} (h : k < cs.length) : (jA cs)[k]? = some (k : Int) := by simp [jA, h]
theorem ajK {cs : List Cell} {k : Nat} (hk : k < cs.length) (h : qN (bH cs k) = true) : mZ cs ((jA cs).take k) = mZ cs ((jA cs).take (k + 1)) := adS (CZ hk) h
theorem ajL {cs : List Cell} {k : Nat} (hk : k < cs.length) (h : qN (bH cs k) = false) : mZ cs ((jA cs).take k) ++ nK (bH cs k) = mZ cs ((jA cs).take (k + 1)) := adT (CZ hk) h
def xR (cs : List Cell) (k : Nat) : List Int := (((allM cs).take k).filter FU).flatMap (GM cs)
def EY (cs : List Cell) (f : su) : List Int := 17 :: Ol ((f.s + 1) % cs.length) cs.length
theorem Y9 (cs : List Cell) (f : su) : EY cs f = [17] ++ [(mV ((f.s + 1) % cs.length) cs.length).1, (mV ((f.s + 1) % cs.length) cs.length).2.1] := by unfold EY; rw [KF]; rfl
theorem SV (cs : List Cell) (f : su) : GM cs f = EY cs f ++ mZ cs (iP cs.length f) := by unfold GM EY; rfl
theorem al7 {cs : List Cell} {k s : Nat} (hx : (dm cs)[k]? = some s) (h : (lG cs s).a % 2 = 1) : xR cs k ++ (EY cs (lG cs s) ++ mZ cs (iP cs.length (lG cs s))) = xR cs (k + 1) := by
 unfold xR
 rw [← rf (GI hx), List.filter_append, List.flatMap_append]
 have : FU (lG cs s) = true := decide_eq_true h
 simp [this, SV]
theorem al8 {cs : List Cell} {k s : Nat} (hx : (dm cs)[k]? = some s) (h : ¬ (lG cs s).a % 2 = 1) : xR cs k = xR cs (k + 1) := by
 unfold xR
 rw [← rf (GI hx), List.filter_append, List.flatMap_append]
 have : FU (lG cs s) = false := decide_eq_false h
 simp [this]
theorem acb {cs : List Cell} (h : cs.length ≤ 4096) (f : su) : (GM cs f).length ≤ 8200 := by
 rw [SV]
 unfold EY
 have h1 := IB cs (iP cs.length f)
 have h2 := EJ cs.length f
 simp only [List.length_append, List.length_cons, Oa]
 omega
theorem WB {cs : List Cell} (h : cs.length ≤ 4096) (k : Nat) : (xR cs k).length ≤ 8200 * k := by
 unfold xR
 refine Nat.le_trans (EX (acb h) _) ?_
 have h1 := List.length_filter_le FU ((allM cs).take k)
 rw [List.length_take] at h1
 exact Nat.mul_le_mul_left _ (by omega)
theorem aga (cs : List Cell) : xR cs (dm cs).length = ((allM cs).filter FU).flatMap (GM cs) := by
 unfold xR
 rw [List.take_of_length_le (by rw [Oe]; exact Nat.le_refl _)]
theorem aot {cs : List Cell} (hp : 0 < cs.length) (h : 0 ≤ lU cs 0 1) : allM cs ≠ [] := by
 obtain ⟨k, _, h1, h2⟩ := Kv (cs := cs) (at' := 0) (step := 1) ⟨by omega, by omega⟩ (by omega)
 intro e
 have hb := kM (0 + (k : Int) * 1) hp
 rw [h1] at h2
 have hm : (0 + (k : Int) * 1) % cs.length ∈ vO cs := FQ.2 ⟨hb, h2.1⟩
 have : allM cs = (vO cs).map (lG cs) := rfl
 rw [this] at e
 rw [List.map_eq_nil_iff.1 e] at hm
 cases hm
theorem aou {cs : List Cell} (hp : 0 < cs.length) (h : ¬ 0 ≤ lU cs 0 1) : allM cs = [] := by
 have := Jq (cs := cs) (at' := 0) ⟨by omega, by omega⟩ (by omega)
 unfold allM
 rw [List.map_eq_nil_iff]
 cases hs : vO cs with
 | nil => rfl
 | cons s l =>
  exfalso
  obtain ⟨h1, h2⟩ := FQ.1 (show s ∈ vO cs by rw [hs]; simp)
  rw [this s h1] at h2
  cases h2
theorem al9 {cs : List Cell} {cur jf : Int} (h : allM cs ≠ []) : [jf] ++ [(mV cur cs.length).1, (mV cur cs.length).2.1] ++ xR cs (dm cs).length = allB cs cur jf := by
 unfold allB
 rw [if_neg h, KF, aga]; rfl
theorem ama {cs : List Cell} {cur jf : Int} (h : allM cs = []) : [jf] ++ [(mV cur cs.length).1, (mV cur cs.length).2.1] ++ mZ cs (jA cs) = allB cs cur jf := by
 unfold allB
 rw [if_pos h, KF]; rfl
theorem adU {cs : List Cell} (h : cs.length ≤ 4096) : (xR cs (dm cs).length).length ≤ 33587200 := by
 have h1 := WB h (dm cs).length
 have h2 := vz cs
 have : 8200 * (dm cs).length ≤ 8200 * 4096 := Nat.mul_le_mul_left _ (by omega)
 omega
def readB (cs : List Cell) (cur jf : Int) : List Int := if jf = 109 ∨ jf = 108 ∨ jf = 110 ∨ jf = 107 then [jf] else allB cs cur jf
theorem Za {cs : List Cell} {cur jf : Int} (h : jf = 109 ∨ jf = 108 ∨ jf = 110 ∨ jf = 107) : readB cs cur jf = [jf] := if_pos h
theorem ajM {cs : List Cell} {cur jf : Int} (h : ¬ (jf = 109 ∨ jf = 108 ∨ jf = 110 ∨ jf = 107)) : readB cs cur jf = allB cs cur jf := if_neg h
def yK (cs : List Cell) (cur jf : Int) (k : Nat) : List Int := [jf] ++ [(mV cur cs.length).1, (mV cur cs.length).2.1] ++ (cs.take k).flatMap ig
theorem Om (cs : List Cell) (cur jf : Int) : yK cs cur jf cs.length = vT cs cur jf := by
 unfold yK vT
 rw [List.take_length, KF]; rfl
theorem SX {cs : List Cell} {k : Nat} (h : k < cs.length) : cs[k]? = some (bH cs k) := ajN h
theorem amb {cs : List Cell} {cur jf : Int} {k : Nat} (hk : k < cs.length) (h : (bH cs k).st = true) : yK cs cur jf k ++ [29, jV (bH cs k).b] = yK cs cur jf (k + 1) := by
 unfold yK
 rw [← rf (SX hk), List.flatMap_append]
 simp [ig, h]
theorem amc {cs : List Cell} {cur jf : Int} {k : Nat} (hk : k < cs.length) (h : (bH cs k).st = false) : yK cs cur jf k ++ nK (bH cs k) = yK cs cur jf (k + 1) := by
 unfold yK
 rw [← rf (SX hk), List.flatMap_append]
 simp [ig, h]
theorem agb (c : Cell) : (ig c).length ≤ 2 := by
 unfold ig; split
 ·simp
 ·exact BK c
theorem WC (cs : List Cell) (cur jf : Int) (k : Nat) : (yK cs cur jf k).length ≤ 3 + 2 * k := by
 unfold yK
 have h := EX agb (cs.take k)
 rw [List.length_take] at h
 simp only [List.length_append, List.length_cons, List.length_nil]
 have : 2 * min k cs.length ≤ 2 * k := Nat.mul_le_mul_left _ (by omega)
 omega
end Gs
namespace Go.Sh
open Go
theorem agc {P : Program} {w : World} {t n m b : Nat} (hn : (match P.underlying t with | some (.array n e) => (aY P e).map (n, ·) | _ => none) = some (n, m)) :
  (Instr.sliceAt t (.pointer (some ⟨b, 0, none⟩)) none none none).run P w = .ok (.slice (some ⟨b, 0, none⟩) n n) w := by
 split at hn
 ·rename_i n' e hu
  cases hc : aY P e with
  | none => rw [hc] at hn; cases hn
  | some s =>
   rw [hc] at hn
   obtain ⟨rfl, rfl⟩ : n' = n ∧ s = m := by simpa using hn
   have hl : P.arrayLen t = n' := by simp [Program.arrayLen, hu]
   have he : P.elem t = e := by simp [Program.elem, hu]
   have hu' : P.underlying t = some (.array (P.arrayLen t) (P.elem t)) := by rw [hl, he]; exact hu
   rw [run_sliceAt_array_all w t ⟨b, 0, none⟩ hu', sK (P := P) (w := w) (by rw [he]; exact hc)]
   simp only [Result.andThen, slicedAt, hl, Nat.zero_mul, Nat.sub_zero]
   by_cases h0 : n' = 0
   ·subst h0; rfl
   ·rw [if_neg h0]
    have : (⟨b, 0, none⟩ : Addr).add 0 = ⟨b, 0, none⟩ := by unfold Addr.add; split <;> simp_all
    rw [this]
 ·cases hn
end Go.Sh
end
section
namespace Gs
open Go Go.Sh
def SN (p : Int) : ByteArray := if p = -1 then ⟨#[42]⟩ else zC p
def P8 (page : Int) (c : Cell) : List UInt8 := (Utf8.encode (vZ page c)).data.toList
def agf (p : Int) : ByteArray := ⟨#[32]⟩ ++ SN p ++ ⟨#[61]⟩
def EU (page : Int) (x : Int × List Cell) : List UInt8 := (agf x.1).data.toList ++ x.2.flatMap (P8 page)
def Nl (a cur : Int) : ByteArray := EQ a ++ ⟨#[32, 64]⟩ ++ zC cur
def Wl (page : Int) (i : Inb) : List UInt8 := if i.alone = true then (EQ i.jf).data.toList else (Nl i.jf i.cur).data.toList ++ i.items.flatMap (EU page)
theorem adN {α β : Type} {f : α → List β} {l : List α} {k : Nat} {x : α} (hx : l[k]? = some x) : (l.take (k + 1)).flatMap f = (l.take k).flatMap f ++ f x := by
 rw [List.take_add_one, hx]; simp
theorem Oo {α β : Type} {f : α → List β} {m : Nat} {l : List α} (h : ∀ x ∈ l, (f x).length ≤ m) : (l.flatMap f).length ≤ m * l.length := by
 induction l with
 | nil => simp
 | cons a l ih =>
  have h1 := h a (List.mem_cons_self ..)
  have h2 := ih fun x hx => h x (List.mem_cons_of_mem _ hx)
  simp only [List.flatMap_cons, List.length_append, List.length_cons, Nat.mul_add, Nat.mul_one]; omega
theorem al2 {l : List It} {k : Nat} {x : It} (hx : l[k]? = some x) (page : Int) : (its (l.take (k + 1))).flatMap (EU page) = (its (l.take k)).flatMap (EU page) ++ ((⟨#[32]⟩ ++ SN x.at' ++ ⟨#[61]⟩ : ByteArray).data.toList ++ x.cs.flatMap (P8 page)) := by
 have e : its (l.take (k + 1)) = its (l.take k) ++ [(x.at', x.cs)] := by rw [List.take_add_one, hx]; simp [its]
 rw [e]; simp [EU, agf]
theorem Wq {p : Int} (h : -9223372036854775808 ≤ p ∧ p ≤ 9223372036854775807) : (SN p).size ≤ 21 := by
 unfold SN; split
 ·decide
 ·exact Iy h
theorem wW (a b : ByteArray) : (a ++ b).size = a.size + b.size := by simp
theorem EW (a : ByteArray) : a.data.toList.length = a.size := by simp
theorem Y4 : (⟨#[32]⟩ : ByteArray).size = 1 := rfl
theorem Y5 : (⟨#[61]⟩ : ByteArray).size = 1 := rfl
theorem SL : (⟨#[32, 64]⟩ : ByteArray).size = 2 := rfl
theorem al0 {page : Int} {i : Inb} (h : i.alone = true) : Wl page i = (EQ i.jf).data.toList := if_pos h
theorem al3 {page : Int} {i : Inb} (h : i.alone = false) : Wl page i = (Nl i.jf i.cur).data.toList ++ i.items.flatMap (EU page) := if_neg (by rw [h]; decide)
theorem str_eq (s : ByteArray) : s = ⟨s.data.toList.toArray⟩ := by cases s; simp
theorem Q8 {page : Int} {c : Cell} (h : 0 ≤ c.b ∧ c.b ≤ 255) : (P8 page c).length ≤ 4 := by
 unfold P8; rw [(ame (adW h)).1]; exact encode_le _
theorem af5 {page : Int} {c : Cell} (h : 0 ≤ c.b ∧ c.b ≤ 255) : (Utf8.encode (vZ page c)).size ≤ 4 := by have := Q8 (page := page) h; simpa [P8] using this
theorem ajC {page : Int} {xs : List Cell} {k : Nat} (h : je xs) : ((xs.take k).flatMap (P8 page)).length ≤ 4 * k := by
 have h1 := Oo (f := P8 page) (m := 4) (l := xs.take k) fun x hx => Q8 (h x (List.mem_of_mem_take hx))
 have h2 := List.length_take_le k xs
 omega
theorem af4 {a cur : Int} (ha : 0 ≤ a ∧ a ≤ 255) (hc : -9223372036854775808 ≤ cur ∧ cur ≤ 9223372036854775807) : (Nl a cur).size ≤ 123 := by
 have h1 := P7 ha; have h2 := Iy hc
 unfold Nl; simp only [wW, SL]; omega
theorem ajP {page : Int} {x : It} (hp : -9223372036854775808 ≤ x.at' ∧ x.at' ≤ 9223372036854775807) (hw : je x.cs) (hc : x.cs.length ≤ 100000) : (EU page (x.at', x.cs)).length ≤ 400023 := by
 have h1 := Wq hp
 have h2 := Oo (f := P8 page) (m := 4) (l := x.cs) fun c hc => Q8 (hw c hc)
 unfold EU agf
 simp only [List.length_append, EW, wW, Y4, Y5]; omega
theorem Wp {page : Int} {l : List It} (hw : Iw l) (hp : ∀ x ∈ l, -9223372036854775808 ≤ x.at' ∧ x.at' ≤ 9223372036854775807) (hc : ∀ x ∈ l, x.cs.length ≤ 100000) (k : Nat) : ((its (l.take k)).flatMap (EU page)).length ≤ 400023 * k := by
 have h1 := Oo (f := EU page) (m := 400023) (l := its (l.take k)) fun y hy => by
  obtain ⟨x, hx, rfl⟩ := List.mem_map.1 hy
  have hm := List.mem_of_mem_take hx
  exact ajP (hp x hm) (hw x hm) (hc x hm)
 rw [LZ] at h1
 have h2 := List.length_take_le k l
 omega
def vU : Array Value := (Lib.pow10Tab.map fun z => Value.int .u64 z).toArray
end Gs
namespace Go.Sh
open Go
theorem alZ {P : Program} {w : World} {g : Nat} {e : TypeId} {f : Nat × Nat} (hg : P.globalNamed "internal/strconv.uint64pow10" = some g) (h : w.heap[g]? = some (.cells Gs.vU e f)) : Lib.TabIs P w "internal/strconv.uint64pow10" .u64 Lib.pow10Tab := by
 unfold Lib.TabIs World.var?; rw [hg]; simp only [Option.bind_some, h]; rfl
theorem WG {P : Program} {w : World} (h : Lib.TabIs P w "internal/strconv.uint64pow10" .u64 Lib.pow10Tab) : ∃ g e f, P.globalNamed "internal/strconv.uint64pow10" = some g ∧ w.heap[g]? = some (.cells Gs.vU e f) := by
 unfold Lib.TabIs World.var? at h
 cases hg : P.globalNamed "internal/strconv.uint64pow10" with
 | none => rw [hg] at h; cases h
 | some g =>
  rw [hg] at h
  simp only [Option.bind_some] at h
  split at h
  ·rename_i cs e f hh
   cases h
   exact ⟨g, e, f, rfl, hh⟩
  ·cases h
end Go.Sh
end
section
namespace Gs
open Go
end Gs
namespace Go.Sh
open Go
theorem Sr {P : Program} {R : Ending → World → Prop} {K : Value → World → Prop} {w : World} {g : FuncId} {first cap args args' : Array Value} (hb : ((P.funcs[g]?).any fun fn => fn.body.isSome && !(fn.name == "runtime.NumGoroutine")) = true) (he : first ++ args ++ cap = args') (h : lh P g args' w R K) :
  CV P (.func (.func g) first cap) args w R K := by
 subst he
 exact ⟨hb, h⟩
end Go.Sh
end
section
namespace Gs
open Go Go.Sh
end Gs
namespace Go.Sh
open Go
variable {P : Program} {R : Ending → World → Prop} {K : Value → World → Prop} {w : World}
end Go.Sh
end
section
namespace Gs
open Go Go.Sh
theorem amd (p n : Int) : Bs [(mV p n).1, (mV p n).2.1] := by
 have := ajD p n
 intro x hx
 simp at hx
 omega
theorem agd {c : Cell} (h : 0 ≤ c.b ∧ c.b ≤ 255) : Bs (nK c) := by
 unfold nK
 intro x hx
 repeat' split at hx
 all_goals (simp at hx; omega)
theorem adV {a b : List Int} (ha : Bs a) (hb : Bs b) : Bs (a ++ b) := fun x hx => (List.mem_append.1 hx).elim (ha x) (hb x)
theorem ajO {α : Type} {f : α → List Int} {l : List α} (h : ∀ x ∈ l, Bs (f x)) : Bs (l.flatMap f) := fun y hy => by
 obtain ⟨x, hx, hy⟩ := List.mem_flatMap.1 hy
 exact h x hx y hy
theorem aqR {x : Int} (h : 0 ≤ x ∧ x ≤ 255) : Bs [x] := fun y hy => by rw [List.mem_singleton.1 hy]; exact h
theorem ajo {cs : List Cell} {cur x : Int} (hw : je cs) (hx : 0 ≤ x ∧ x ≤ 255) : Bs (vT cs cur x) := by
 rw [← Om]
 unfold yK
 refine adV (adV (aqR hx) (amd _ _)) (ajO fun c hc => ?_)
 have hb := hw c (List.mem_of_mem_take hc)
 unfold ig
 split
 ·have hd := Oi c.b
  intro y hy
  simp at hy
  omega
 ·exact agd hb
theorem WE {cs : List Cell} {cur x : Int} (h : cs.length ≤ 120) : (vT cs cur x).length ≤ 40000 := by
 rw [← Om]
 have := WC cs cur x cs.length
 omega
end Gs
end
section
namespace Go.Sh
open Go Go.ChangeShapes Go.WideShapes Go.RowKit
def aof : TypeDesc → Value → Prop
  | .int k, v => ∃ n, v = .int k n ∧ (Lit.int k n).wf = true
  | .bool, v => ∃ b, v = .bool b
  | .string, v => ∃ s, v = .string s ∧ s.size ≤ maxLen
  | _, _ => False
def pG : List TypeDesc → List Value → Prop
  | [], vs => vs = []
  | d :: ds, vs => ∃ v vs', vs = v :: vs' ∧ aof d v ∧ pG ds vs'
theorem pG.len : ∀ {ds : List TypeDesc} {vs : List Value}, pG ds vs → vs.length = ds.length
  | [], _, h => by cases h; rfl
  | d :: ds, _, ⟨v, vs', h, _, h2⟩ => by subst h; simp [pG.len h2]
theorem pG.append : ∀ {ds es : List TypeDesc} {vs us : List Value}, pG ds vs → pG es us → pG (ds ++ es) (vs ++ us)
  | [], _, _, _, h, h2 => by cases h; exact h2
  | d :: ds, _, _, _, ⟨v, vs', h, h1, h3⟩, h2 => by subst h; exact ⟨v, vs' ++ _, rfl, h1, pG.append h3 h2⟩
def ZP : TypeDesc → Bool
  | .int _ | .bool | .string => true
  | _ => false
def O6 (P : Program) (rec : TypeId → Option (List TypeDesc)) : List Field → List TypeDesc → Option (List TypeDesc)
  | [], acc => some acc
  | f :: fs, acc => if f.offset = acc.length then
      match rec f.type with
      | some l => if P.cellsOf f.type = l.length then O6 P rec fs (acc ++ l) else none
      | none => none
    else none
def flat (P : Program) : Nat → TypeId → Option (List TypeDesc)
  | 0, _ => none
  | n + 1, t =>
    match P.underlying t with
    | some (.struct fs) => match O6 P (flat P n) fs.toList [] with
      | some l => if P.cellsOf t = l.length then some l else none
      | none => none
    | some d => if ZP d then some [d] else none
    | none => none
section
variable {H : Type} {enc : TypeId × Value → H} {P : Program} {w : World} {base : Nat} {spare : Nat → Bool} {held : Bool}
theorem acU {d : TypeDesc} {t : TypeId} {fuel : Nat} {cs : List Value} {x : DataW H × List MemPlace} (ht : P.underlying t = some d) (hd : ZP d = true) (h : DataW.trod enc P w base spare held fuel t cs = some x) : pG [d] cs := by
  cases fuel with
  | zero => simp [DataW.trod] at h
  | succ fuel =>
    cases d <;> simp only [ZP, Bool.false_eq_true] at hd <;> unfold DataW.trod at h <;> rw [ht] at h <;> dsimp only at h
    all_goals
      match cs, h with
      | [], h => simp at h
      | _ :: _ :: _, h => simp at h
      | [v], h =>
        cases v <;> simp only [reduceCtorEq] at h
        first
          | exact ⟨_, [], rfl, ⟨_, rfl⟩, rfl⟩
          | (split at h
             · rename_i hc
               first
                 | (obtain ⟨rfl, hc⟩ := hc; exact ⟨_, [], rfl, ⟨_, rfl, hc⟩, rfl⟩)
                 | exact ⟨_, [], rfl, ⟨_, rfl, hc⟩, rfl⟩
             · cases h)
theorem MO {rec : TypeId → Option (List TypeDesc)} {fuel : Nat} {cs : List Value}
    (hr : ∀ t ds cs x, rec t = some ds → DataW.trod enc P w base spare held fuel t cs = some x → pG ds cs) :
    ∀ (fs : List Field) (acc ds : List TypeDesc), O6 P rec fs acc = some ds → (∀ f ∈ fs, ∃ x, DataW.trod enc P w base spare held fuel f.type ((cs.drop f.offset).take (P.cellsOf f.type)) = some x) →
      pG acc (cs.take acc.length) → pG ds (cs.take ds.length)
  | [], acc, ds, h, _, h2 => by simp only [O6, Option.some.injEq] at h; subst h; exact h2
  | f :: fs, acc, ds, h, hx, h2 => by
    unfold O6 at h
    split at h
    · rename_i ho
      split at h
      · rename_i l hl
        split at h
        · rename_i hc
          obtain ⟨x, h3⟩ := hx f (by simp)
          have h4 := hr _ _ _ _ hl h3
          refine MO hr fs _ ds h (fun g hg => hx g (by simp [hg])) ?_
          rw [List.length_append, List.take_add, ← ho]
          rw [ho, hc] at h4
          rw [ho]
          exact h2.append h4
        · cases h
      · cases h
    · cases h
theorem CO : ∀ (n : Nat) (fuel : Nat) (t : TypeId) (ds : List TypeDesc) (cs : List Value) (x : DataW H × List MemPlace), flat P n t = some ds → DataW.trod enc P w base spare held fuel t cs = some x → pG ds cs
  | 0, _, _, _, _, _, h, _ => by simp [flat] at h
  | n + 1, fuel, t, ds, cs, x, h, hx => by
    unfold flat at h
    split at h
    · rename_i fs hu
      split at h
      · rename_i l hl
        split at h
        · rename_i hc
          simp only [Option.some.injEq] at h
          subst h
          obtain ⟨xs, m, _, rfl, hlen, hxs, hf⟩ := DataW.trod_struct hu hx
          have key := MO (enc := enc) (w := w) (base := base) (spare := spare) (held := held) (rec := flat P n) (fuel := m) (cs := cs) (fun t ds cs x h1 h2 => CO n m t ds cs x h1 h2) fs.toList [] l hl (fun f hm => by
            obtain ⟨i, hi, rfl⟩ := List.getElem_of_mem hm
            have h5 := hf i fs.toList[i] (by rw [← Array.getElem?_toList, List.getElem?_eq_getElem hi])
            rw [List.getElem?_eq_getElem (by simp at hi; omega)] at h5
            exact ⟨_, h5⟩) rfl
          rw [← hc, ← hlen, List.take_length] at key
          exact key
        · cases h
      · cases h
    · rename_i d hd hu
      split at h
      · rename_i hl
        simp only [Option.some.injEq] at h
        subst h
        exact acU hu hl hx
      · cases h
    · cases h
theorem NJ {α : Type} {f : α → List Value} {Q : α → Prop} {r : Reach} {b0 : Nat} {t : TypeId} {n : Nat} {fs : Array Field} {ds : List TypeDesc} (ht : P.underlying t = some (.struct fs)) (hfl : flat P n t = some ds) (hd : ∀ cs, pG ds cs → ∃ a, cs = f a ∧ Q a)
    {v : Value} {d : DataW H} {ps : List MemPlace} (hval : Value.okWide P w r b0 t v) (h : DataW.Trod enc P w base spare held t v d ps) : ∃ a, v = .agg (f a).toArray ∧ Q a := by
  obtain ⟨cs, rfl, _⟩ := okWide_struct ht hval
  obtain ⟨fuel, h1⟩ := h
  obtain ⟨a, h2, h3⟩ := hd _ (CO _ _ _ _ _ _ hfl h1)
  refine ⟨a, ?_, h3⟩
  rw [← h2]
  simp [Value.cells]
end
def iv (k : IntKind) (x : Int) : List Value := [.int k x]
theorem encI (k : IntKind) : Enc (iv k) 1 := ⟨fun _ => rfl, fun a u hu => by
  simp only [iv, List.mem_singleton] at hu; subst hu; rfl, by decide⟩
theorem afi (k : IntKind) : ∀ cs, pG [.int k] cs → ∃ a, cs = iv k a ∧ (Lit.int k a).wf = true := by
  rintro cs ⟨_, _, rfl, ⟨a, rfl, ha⟩, rfl⟩
  exact ⟨a, rfl, ha⟩
theorem QK (k : IntKind) (l : List Int) : rows (iv k) l = vals k l := by
  induction l with
  | nil => rfl
  | cons a l ih => show iv k a ++ rows (iv k) l = _; rw [ih]; rfl
end Go.Sh
end
section
namespace Gs
open Go Go.Sh
def sv (x : Int × Int) : List Value := [.int .i64 x.1, .int .i64 x.2]
theorem KY : ∀ cs, pG [.int .i64, .int .i64] cs → ∃ a, cs = sv a ∧ True := by
 rintro cs ⟨_, _, rfl, ⟨a, rfl, _⟩, ⟨_, _, rfl, ⟨b, rfl, _⟩, rfl⟩⟩
 exact ⟨(a, b), rfl, trivial⟩
end Gs
end
section
namespace Gs
open Go
theorem Ku {ps : List Cell} {a k : Int} {x : Cell} (ha : 0 ≤ a ∧ a < ps.length) (hk : 0 ≤ k ∧ k < ps.length) : bH (iC ps a x) k = if a = k then x else bH ps k := by
 rw [GG x ha.1 ha.2, V3 ha hk]
theorem OI {ps : List Cell} {a : Int} {x : Cell} (ha : 0 ≤ a ∧ a < ps.length) : bH (iC ps a x) a = x := by rw [Ku ha ha, if_pos rfl]
theorem uj {ps : List Cell} {a k : Int} {x : Cell} (ha : 0 ≤ a ∧ a < ps.length) (hk : 0 ≤ k ∧ k < ps.length) (h : k ≠ a) : bH (iC ps a x) k = bH ps k := by rw [Ku ha hk, if_neg (Ne.symm h)]
end Gs
namespace Go.Sh
open Go
variable {P : Program} {w : World} {R : Ending → World → Prop} {K : Value → World → Prop}
end Go.Sh
end
section
namespace Gs
open Go Go.Sh
def ch (x : Int) : Cell := ⟨x, false, false, 0, 0⟩
def rC (cs : List Cell) (z : Nat) (l : List Int) : Prop :=
 cs.length = z + 3 ∧ bH cs 0 = ⟨if l = [] then 0 else 1, false, true, 0, 0⟩ ∧ (∀ (j : Nat) x, l[j]? = some x → bH cs ((j : Int) + 1) = ch x) ∧
  (∀ i : Int, l.length < i ∧ i ≤ z → bH cs i = zc) ∧ bH cs ((z : Int) + 1) = ⟨48, false, true, 0, 0⟩ ∧ bH cs ((z : Int) + 2) = zc
section
variable {cs : List Cell} {z : Nat} {l : List Int}
theorem rC.st (h : rC cs z l) (hl : l.length ≤ z) {i : Int} (hi : 1 ≤ i ∧ i ≤ z) : stB cs i = false := by
 obtain ⟨_, _, h2, h3, _, _⟩ := h
 show (bH cs i).st = false
 by_cases hj : i ≤ l.length
 ·obtain ⟨j, rfl⟩ : ∃ j : Nat, i = (j : Int) + 1 := ⟨(i - 1).toNat, by omega⟩
  have hjl : j < l.length := by omega
  rw [h2 j l[j] (List.getElem?_eq_getElem hjl)]; rfl
 ·rw [h3 i (by omega)]; rfl
theorem rC.st0 (h : rC cs z l) : stB cs 0 = true := by show (bH cs 0).st = true; rw [h.2.1]
theorem rC.st1 (h : rC cs z l) : stB cs ((z : Int) + 1) = true := by show (bH cs _).st = true; rw [h.2.2.2.2.1]
theorem rC.st2 (h : rC cs z l) : stB cs ((z : Int) + 2) = false := by show (bH cs _).st = false; rw [h.2.2.2.2.2]; rfl
theorem rC.ara (h : rC cs z l) (hl : l.length ≤ z) : uS cs 0 = z + 1 := by
 have hn := h.1
 rw [adq (by omega), show ((0 : Int) + 1) % cs.length = 1 from Int.emod_eq_of_lt (by omega) (by omega)]
 have := LQ (cs := cs) (at' := 1) (step := 1) (k := z) (by omega) (fun j hj => by
  rw [show ((1 : Int) + j * 1) = j + 1 by omega, Int.emod_eq_of_lt (by omega) (by omega)]
  exact h.st hl (by omega)) (by omega) (by
  rw [show ((1 : Int) + z * 1) = z + 1 by omega, Int.emod_eq_of_lt (by omega) (by omega)]
  exact h.st1)
 rw [this, show ((1 : Int) + z * 1) = z + 1 by omega, Int.emod_eq_of_lt (by omega) (by omega)]
theorem rC.len0 (h : rC cs z l) (hl : l.length ≤ z) : wU cs 0 = z := by
 unfold wU
 rw [h.ara hl, if_neg (by omega)]; omega
theorem rC.at0 (h : rC cs z l) (hl : l.length ≤ z) : lG cs 0 = ⟨0, z, if l = [] then 0 else 1⟩ := by
 unfold lG
 rw [h.len0 hl, h.2.1]
 split <;> rfl
theorem rC.VF (h : rC cs z l) (hl : l.length ≤ z) {i : Int} (hi : 0 ≤ i ∧ i ≤ z) : gY cs i = 0 := by
 have hn := h.1
 obtain ⟨j, rfl⟩ := Int.eq_ofNat_of_zero_le hi.1
 have := VY (cs := cs) (s := 0) (by omega) h.st0 (j := j) (by rw [h.len0 hl]; omega)
 rwa [Int.zero_add, Int.emod_eq_of_lt (by omega) (by omega)] at this
theorem rC.of (h : rC cs z l) (hl : l.length ≤ z) {i : Int} (hi : 0 ≤ i ∧ i ≤ z) : mX cs i = ⟨0, z, if l = [] then 0 else 1⟩ ∧ mD cs i = true := by
 unfold mX mD
 rw [h.VF hl hi]
 exact ⟨by rw [if_neg (by omega), h.at0 hl], by decide⟩
theorem rC.starts (h : rC cs z l) (hl : l.length ≤ z) : dm cs = [0, z + 1] := by
 unfold dm
 rw [h.1, show z + 3 = (1 + z) + 2 from by omega, List.range_add, List.filter_append, List.range_add, List.filter_append]
 have e0 : (List.range 1).filter (fun i => stB cs (i : Nat)) = [0] := by
  have := h.st0
  simp [List.range_succ, this]
 have e1 : ((List.range z).map fun x => 1 + x).filter (fun i => stB cs (i : Nat)) = [] := by
  rw [List.filter_eq_nil_iff]
  intro x hx
  obtain ⟨j, hj, rfl⟩ := List.mem_map.1 hx
  have := List.mem_range.1 hj
  rw [h.st hl (i := ((1 + j : Nat) : Int)) (by omega)]
  decide
 have e2 : ((List.range 2).map fun x => 1 + z + x).filter (fun i => stB cs (i : Nat)) = [z + 1] := by
  have h1 := h.st1
  have h2 := h.st2
  have a1 : stB cs ((1 + z : Nat) : Int) = true := by rw [show ((1 + z : Nat) : Int) = z + 1 by omega]; exact h1
  have a2 : stB cs ((1 + z + 1 : Nat) : Int) = false := by rw [show ((1 + z + 1 : Nat) : Int) = z + 2 by omega]; exact h2
  rw [show List.range 2 = [0, 1] from rfl]
  simp only [List.map_cons, List.map_nil, Nat.add_zero, List.filter_cons, a1, a2, List.filter_nil]
  simp [Nat.add_comm]
 rw [e0, e1, e2]; rfl
theorem rC.all (h : rC cs z l) (hl : l.length ≤ z) : ∃ y, allM cs = [⟨0, z, if l = [] then 0 else 1⟩, ⟨z + 1, y, 48⟩] := by
 refine ⟨wU cs ((z : Int) + 1), ?_⟩
 unfold allM vO
 rw [h.starts hl]
 show [lG cs 0, lG cs ((z + 1 : Nat) : Int)] = _
 rw [h.at0 hl]
 congr 1
 unfold lG
 rw [show ((z + 1 : Nat) : Int) = z + 1 by omega, h.2.2.2.2.1]
 rfl
theorem rC.step (h : rC cs z l) (hl : l.length < z) (x : Int) : rC (lT (iC cs ((l.length : Int) + 1) (ch x)) ((l.length : Int) + 1)) z (l ++ [x]) := by
 have hn := h.1
 have hc : (iC cs ((l.length : Int) + 1) (ch x)).length = z + 3 := by rw [mg, hn]
 -- the cell alone is no attribute: the fields are as they were
 have hst : ∀ i : Int, stB (iC cs ((l.length : Int) + 1) (ch x)) i = stB cs i := by
  intro i
  by_cases hi : 0 ≤ i ∧ i < cs.length
  ·by_cases he : i = (l.length : Int) + 1
   ·subst he
    show (bH _ _).st = (bH _ _).st
    rw [OI (by omega), h.2.2.2.1 _ (by omega)]; rfl
   ·show (bH _ _).st = (bH _ _).st
    rw [uj (by omega) hi he]
  ·show (bH _ _).st = (bH _ _).st
   rw [yJ hi, yJ (by rw [mg]; exact hi)]
 have hb : gY (iC cs ((l.length : Int) + 1) (ch x)) ((l.length : Int) + 1) = 0 := by
  have e : gY (iC cs ((l.length : Int) + 1) (ch x)) ((l.length : Int) + 1) = gY cs ((l.length : Int) + 1) := by
   unfold gY lU CS
   rw [mg]
   simp only [hst]
  rw [e]; exact h.VF (by omega) (by omega)
 unfold lT
 rw [hb, if_neg (by omega)]
 unfold rO
 have h00 : bH (iC cs ((l.length : Int) + 1) (ch x)) 0 = bH cs 0 := uj (by omega) (by omega) (by omega)
 have hx0 : AB true (bH (iC cs ((l.length : Int) + 1) (ch x)) 0) = ⟨1, false, true, 0, 0⟩ := by
  rw [h00, h.2.1]
  unfold AB
  rw [if_pos rfl]
  by_cases hl0 : l = []
  ·rw [if_pos hl0]; rfl
  ·rw [if_neg hl0]; rfl
 rw [hx0]
 refine ⟨by rw [mg, hc], ?_, fun j y hj => ?_, fun i hi => ?_, ?_, ?_⟩
 ·rw [OI (by omega), if_neg (by simp)]
 ·have hjl : j < (l ++ [x]).length := (List.getElem?_eq_some_iff.1 hj).1
  simp only [List.length_append, List.length_cons, List.length_nil] at hjl
  rw [uj (by omega) (by omega) (by omega)]
  by_cases he : j = l.length
  ·subst he
   rw [List.getElem?_append_right (Nat.le_refl _)] at hj
   simp at hj
   subst hj
   rw [OI (by omega)]
  ·rw [List.getElem?_append_left (by omega)] at hj
   rw [uj (by omega) (by omega) (by omega)]
   exact h.2.2.1 j y hj
 ·simp only [List.length_append, List.length_cons, List.length_nil] at hi
  rw [uj (by omega) (by omega) (by omega), uj (by omega) (by omega) (by omega)]
  exact h.2.2.2.1 i (by omega)
 ·rw [uj (by omega) (by omega) (by omega), uj (by omega) (by omega) (by omega)]
  exact h.2.2.2.2.1
 ·rw [uj (by omega) (by omega) (by omega), uj (by omega) (by omega) (by omega)]
  exact h.2.2.2.2.2
theorem rC.want (h : rC cs z l) (hl : l.length ≤ z) (hs : ∀ x ∈ l, 64 ≤ x) : P9 cs = if l = [] then [] else [(1, l.map ch)] := by
 have hn := h.1
 obtain ⟨y, ha⟩ := h.all hl
 unfold P9
 rw [if_neg (by rw [ha]; simp), ha]
 by_cases he : l = []
 ·rw [if_pos he, if_pos he]; rfl
 ·rw [if_neg he, if_neg he]
  have o1 : FU ⟨0, z, 1⟩ = true := rfl
  have o2 : FU ⟨z + 1, y, 48⟩ = false := rfl
  simp only [List.filter_cons, o1, o2, List.filter_nil]
  simp only [if_true, Bool.false_eq_true, if_false, List.map_cons, List.map_nil]
  rw [show ((0 : Int) + 1) % (cs.length : Int) = 1 from Int.emod_eq_of_lt (by omega) (by omega)]
  congr 2
  -- its places are those from 1 on
  have hp : iP cs.length ⟨0, z, 1⟩ = (List.range z).map fun k : Nat => ((k : Int) + 1) := by
   unfold iP
   rw [if_pos (by show (0 : Int) ≤ 0 ∧ (0 : Int) < _; omega), show (min (max (z : Int) 0) (cs.length : Nat)).toNat = z by omega]
   refine List.map_congr_left fun k hk => ?_
   have := List.mem_range.1 hk
   show ((0 : Int) + (k + 1 : Nat)) % _ = _
   rw [Int.emod_eq_of_lt (by omega) (by omega)]; omega
  rw [hp]
  unfold KE
  rw [List.map_map]
  obtain ⟨m, rfl⟩ : ∃ m, z = l.length + m := ⟨z - l.length, by omega⟩
  rw [List.range_add, List.map_append, List.filter_append, List.map_append]
  have e1 : (List.range l.length).map (bH cs ∘ fun k : Nat => ((k : Int) + 1)) = l.map ch := by
   refine List.ext_getElem? fun j => ?_
   rw [List.getElem?_map, List.getElem?_map]
   by_cases hj : j < l.length
   ·rw [List.getElem?_range hj, List.getElem?_eq_getElem hj]
    simp only [Option.map_some, Function.comp]
    rw [h.2.2.1 j l[j] (List.getElem?_eq_getElem hj)]
   ·rw [List.getElem?_eq_none (by simpa using hj), List.getElem?_eq_none (by omega)]; rfl
  have e2 : (((List.range m).map fun x => l.length + x).map (bH cs ∘ fun k : Nat => ((k : Int) + 1))).filter (fun c => !qN c) = [] := by
   rw [List.filter_eq_nil_iff]
   intro c hc
   obtain ⟨k, hk, rfl⟩ := List.mem_map.1 hc
   obtain ⟨j, hj, rfl⟩ := List.mem_map.1 hk
   have := List.mem_range.1 hj
   simp only [Function.comp]
   rw [h.2.2.2.1 _ (by omega)]
   decide
  rw [e1, e2, List.map_nil, List.append_nil]
  have e3 : (l.map ch).filter (fun c => !qN c) = l.map ch := by
   rw [List.filter_eq_self]
   intro c hc
   obtain ⟨x, hx, rfl⟩ := List.mem_map.1 hc
   have := hs x hx
   unfold qN ch
   dsimp only
   rw [decide_eq_false (by omega)]; rfl
  rw [e3, List.map_map]
  refine List.map_congr_left fun x hx => ?_
  have := hs x hx
  unfold GL ch
  simp only [Function.comp, Bool.false_eq_true, if_false]
  rw [if_pos (by unfold dX; rw [decide_eq_true this]; rfl)]
end
theorem LJ {cs : List Cell} (h : 0 < cs.length) : 0 ≤ um cs ∧ um cs < cs.length := by
 unfold um
 split
 ·exact kM _ h
 ·exact ⟨by omega, by omega⟩
theorem J8 {cs : List Cell} {i : Int} (h : jI cs i = true) : 0 ≤ i ∧ i < cs.length := by
 unfold jI at h
 split at h
 ·exact of_decide_eq_true h
 ·rename_i hb
  exact Classical.not_not.1 fun hn => hb (by unfold gY; rw [AL hn]; decide)
end Gs
end
section
namespace Go.Proofs.YtjdoakbadehicaaGreatDoor
open Go Go.Sh
set_option maxRecDepth 100000
theorem FP {bk : Nat} {st why tn : Int} {x0 x4 x5 : Value} {w : World} (aC : Z.h w bk #[x0, Z.i st, Z.i why, Z.i tn, x4, x5] 95) {s2 y2 : Int} :
    oX 46 #[.pointer (some ⟨bk, 1, none⟩), Z.i s2, Z.i y2] w fun e w' => ∃ v, e = .returned v ∧ ∃ t' : Int, Z.h w' bk #[x0, Z.i s2, Z.i y2, Z.i t', x4, x5] 95 ∧ aB (· = bk) w w' := by
 refine F46.calls ?_
 unfold F46
 have hF : aB (· = bk) w w := Fr.refl _ _ _
 refine bQ (fun g w' => ∃ (t' : Int), (Z.h w' bk #[x0, Z.i st, Z.i why, Z.i t', x4, x5] 95) ∧ (aB (· = bk) w w')) (fun J1 hJ1 => ?_) (fun gJ1 jY hI => ?_)
 refine dB ?_
 refine Z.f 0 ?_
 refine Z.l aC ?_
 refine az (jO _ _ _ _ _) (fun h1 => ?_) (fun h1 => ?_)
 refine aK ?_
 refine dB ?_
 refine Z.f 2 ?_
 refine Z.l aC ?_
 refine ak (Kr _ _ _ _) ?_
 refine dB ?_
 refine Z.f 2 ?_
 refine Z.s aC (fun w2 aC _ U2 => ?_)
 replace hF := hF.go U2 (fun i _ h => h)
 refine hJ1 _ _ ?_
 exact ⟨_, aC, hF⟩
 refine aH ?_
 refine hJ1 _ _ ?_
 exact ⟨_, aC, hF⟩
 obtain ⟨t', aC, hF⟩ := hI
 refine dB ?_
 refine Z.f 0 ?_
 refine Z.s aC (fun w3 aC _ U3 => ?_)
 replace hF := hF.go U3 (fun i _ h => h)
 refine dB ?_
 refine Z.f 1 ?_
 refine Z.s aC (fun w4 aC _ U4 => ?_)
 replace hF := hF.go U4 (fun i _ h => h)
 exact ⟨_, rfl, t', aC, hF⟩
theorem xZ {bk : Nat} {st why tn : Int} {x0 x4 x5 : Value} {w : World} (aC : Z.h w bk #[x0, Z.i st, Z.i why, Z.i tn, x4, x5] 95) :
    oX 17 #[.pointer (some ⟨bk, 1, none⟩)] w fun e w' => ∃ v, e = .returned v ∧ ∃ t' : Int, Z.h w' bk #[x0, Z.i 1, Z.i 0, Z.i t', x4, x5] 95 ∧ aB (· = bk) w w' := by
 refine F17.calls ?_
 unfold F17
 have hF : aB (· = bk) w w := Fr.refl _ _ _
 refine aI (FP aC (s2 := 1) (y2 := 0)) (fun v1 w1 D1 => ?_)
 obtain ⟨t3, N1, U1⟩ := D1
 replace aC := N1
 replace hF := hF.go U1 (fun i _ h => h)
 exact ⟨_, rfl, _, aC, hF⟩
theorem nP {bk : Nat} {st why tn : Int} {x0 x4 x5 : Value} {w : World} (aC : Z.h w bk #[x0, Z.i st, Z.i why, Z.i tn, x4, x5] 95) :
    oX 28 #[.pointer (some ⟨bk, 1, none⟩)] w fun e w' => e = .returned (Z.i (if st = 1 then 0 else 40)) ∧ aB no w w' := by
 refine F28.calls ?_
 unfold F28
 have hF : aB no w w := Fr.refl _ _ _
 refine dB ?_
 refine Z.f 0 ?_
 refine Z.l aC ?_
 refine az (jO _ _ _ _ _) (fun h1 => ?_) (fun h1 => ?_)
 refine aK ?_
 exact ⟨congrArg (fun q => Ending.returned (Z.i q)) (if_neg (by assumption)).symm, hF⟩
 refine aH ?_
 exact ⟨congrArg (fun q => Ending.returned (Z.i q)) (if_pos (Classical.not_not.1 (by assumption))).symm, hF⟩
theorem Yo {bk : Nat} {st why tn : Int} {x0 x4 x5 : Value} {w : World} (aC : Z.h w bk #[x0, Z.i st, Z.i why, Z.i tn, x4, x5] 95) (hs : st = 1) :
    oX 83 #[.pointer (some ⟨bk, 1, none⟩)] w fun e w' => ∃ v, e = .returned v ∧ v = Z.i 0 ∧ ∃ t' : Int, Z.h w' bk #[x0, Z.i 2, Z.i 0, Z.i t', x4, x5] 95 ∧ aB (· = bk) w w' := by
 refine F83.calls ?_
 unfold F83
 have hF : aB (· = bk) w w := Fr.refl _ _ _
 refine aA (nP aC) (fun w1 U1 => ?_)
 rw [if_pos hs]
 refine jQ (jO _ _ _ _ _) (fun h => h rfl) ?_
 refine aH ?_
 replace aC := U1.af aC
 refine aI (FP aC (s2 := 2) (y2 := 0)) (fun v2 w2 D2 => ?_)
 obtain ⟨t10, N2, U2⟩ := D2
 replace aC := N2
 replace hF := hF.go0 U1
 replace hF := hF.go U2 (fun i _ h => h)
 exact ⟨_, rfl, rfl, _, aC, hF⟩
theorem Hm {b : Int} {w : World} (hb : 0 ≤ b ∧ b ≤ 255) :
    oX 9 #[Z.u b] w fun e w' => e = .returned (.bool (decide (¬ Gs.AQ b = ⟨#[]⟩))) ∧ aB no w w' := by
 refine F9.calls ?_
 unfold F9
 have hF : aB no w w := Fr.refl _ _ _
 refine aA (zD hb) (fun w1 U1 => ?_)
 refine ak (neS _ _ _ _) ?_
 replace hF := hF.go0 U1
 exact ⟨rfl, hF⟩
theorem Ih {k b : Int} {w : World} (hb : 0 ≤ b ∧ b ≤ 255) :
    oX 48 #[.agg #[Z.i k, Z.u b]] w fun e w' => e = .returned (.bool (decide ((1 ≤ k ∧ k < 17) ∨ (k = 17 ∧ ¬ Gs.AQ b = ⟨#[]⟩)))) ∧ aB no w w' := by
 refine F48.calls ?_
 unfold F48
 have hF : aB no w w := Fr.refl _ _ _
 refine Z.x (#[Z.i k, Z.u b]) (fun b1 w1 e1 ah _ U1 => ?_)
 refine Z.f 0 ?_
 refine Z.l ah ?_
 refine az (geq _ _ _ _) (fun h2 => ?_) (fun h2 => ?_)
 refine aV ?_
 refine Z.f 0 ?_
 refine aV ?_
 refine Z.l ah ?_
 refine aV ?_
 refine az (lss _ _ _ _) (fun h3 => ?_) (fun h3 => ?_)
 refine aU (bg (bg (bg (bg (tN (tN (tN (bg (aU ?_)))))))))
 replace hF := hF.go0 U1
 exact ⟨NM (.inl ⟨by omega, by omega⟩), hF⟩
 refine aU (aW ?_)
 refine Z.f 0 ?_
 refine aW ?_
 refine Z.l ah ?_
 refine aW ?_
 refine az (dh _ _ _ _ _) (fun h5 => ?_) (fun h5 => ?_)
 refine aW (aV ?_)
 refine Z.f 1 ?_
 refine aV ?_
 refine Z.l ah ?_
 refine aV ?_
 refine aA (Hm hb) (fun w6 U6 => ?_)
 refine aW (aU (aQ ?_))
 replace hF := (hF.go0 U1).go0 U6
 exact ⟨congrArg (fun q => Ending.returned (.bool q)) (decide_eq_decide.2 ⟨fun h => .inr ⟨by omega, h⟩, fun h => h.elim (fun h => by omega) (fun h => h.2)⟩), hF⟩
 refine aW (aP (aP (aP (aW (aQ (aQ ?_))))))
 replace hF := hF.go0 U1
 exact ⟨NU (fun h => h.elim (fun h => by omega) (fun h => by omega)), hF⟩
 refine aP (aP (aP (aQ (aW ?_))))
 refine Z.f 0 ?_
 refine aW ?_
 refine Z.l ah ?_
 refine aW ?_
 refine az (dh _ _ _ _ _) (fun h9 => ?_) (fun h9 => ?_)
 refine aW (aV ?_)
 refine Z.f 1 ?_
 refine aV ?_
 refine Z.l ah ?_
 refine aV ?_
 refine aA (Hm hb) (fun w10 aX => ?_)
 refine aW (aU (aQ ?_))
 replace hF := (hF.go0 U1).go0 aX
 exact ⟨congrArg (fun q => Ending.returned (.bool q)) (decide_eq_decide.2 ⟨fun h => .inr ⟨by omega, h⟩, fun h => h.elim (fun h => by omega) (fun h => h.2)⟩), hF⟩
 refine aW (aP (aP (aP (aW (aQ (aQ ?_))))))
 replace hF := hF.go0 U1
 exact ⟨NU (fun h => h.elim (fun h => by omega) (fun h => by omega)), hF⟩
theorem Au {x : Int} {w : World} (hx : 0 ≤ x ∧ x ≤ 255) :
    oX 118 #[Z.u x] w fun e w' => e = .returned (.bool (decide (x / 16 % 2 = 1))) ∧ aB no w w' := by
 refine aaX.calls ?_
 unfold aaX
 have hF : aB no w w := Fr.refl _ _ _
 refine ak (aiZ _ (by omega)) ?_
 refine ak (jO _ _ _ _ _) ?_
 exact ⟨Ak (by omega), hF⟩
theorem lg {r c cur : Int} {A : Option Addr} {n cp bp B0 : Nat} {cs : List Gs.Cell} {w : World} (ag : Z.h w bp #[Z.i r, Z.i c, .slice A n cp, Z.i cur] 91) (ae : Own B0 w 37 5 (.slice A n cp) (rows Gs.cv cs)) (hn : n = cs.length) {i j : Int} (hp : 0 < n) (hN : Gs.aY r c = n) (hb : n ≤ 4096)  :
    oX 125 #[Z.p bp, Z.i i, Z.i j] w fun e w' => e = .returned (Z.i ((i + j) % (n : Int))) ∧ aB no w w' := by
 refine aaZ.calls ?_
 unfold aaZ
 have hF : aB no w w := Fr.refl _ _ _
 refine aA (kP ag ae hn) (fun w1 U1 => ?_)
 refine aA (nI (i := i) (j := j)) (fun w2 U2 => ?_)
 rw [hN, Gs.uf (by omega)]
 replace hF := (hF.go0 U1).go0 U2
 exact ⟨rfl, hF⟩
theorem mF {r c cur : Int} {A : Option Addr} {n cp bp B0 : Nat} {cs : List Gs.Cell} {w : World} (ag : Z.h w bp #[Z.i r, Z.i c, .slice A n cp, Z.i cur] 91) (ae : Own B0 w 37 5 (.slice A n cp) (rows Gs.cv cs)) (hn : n = cs.length) {i : Int} (hi : 0 ≤ i ∧ i < cs.length) :
    oX 124 #[Z.p bp, Z.i i] w fun e w' => ∃ v, e = .returned v ∧ v = Z.i i ∧ Z.h w' bp #[Z.i r, Z.i c, .slice A n cp, Z.i i] 91 ∧ aB (· = bp) w w' := by
 refine aaY.calls ?_
 unfold aaY
 have hF : aB (· = bp) w w := Fr.refl _ _ _
 refine aI (vw ag ae hn (i := i)) (fun v1 w1 D1 => ?_)
 obtain ⟨rfl, N1, U1⟩ := D1
 replace ag := N1
 replace hF := hF.go U1 (fun i _ h => h)
 rw [if_pos hi] at ag
 exact ⟨_, rfl, rfl, ag, hF⟩
theorem Lu {r c cur : Int} {A : Option Addr} {n cp bp B0 : Nat} {cs : List Gs.Cell} {w : World} (ag : Z.h w bp #[Z.i r, Z.i c, .slice A n cp, Z.i cur] 91) (ae : Own B0 w 37 5 (.slice A n cp) (rows Gs.cv cs)) (hn : n = cs.length) (hp : 0 < n) (hN : Gs.aY r c = n) (hb : n ≤ 4096) (hx : (Gs.bH cs ((cur + 1) % (n : Int))).st = false) :
    oX 74 #[Z.p bp] w fun e w' => ∃ v, e = .returned v ∧ v = Z.i ((cur + 1) % (n : Int)) ∧ Z.h w' bp #[Z.i r, Z.i c, .slice A n cp, Z.i ((cur + 1) % (n : Int))] 91 ∧ aB (· = bp) w w' := by
 refine YN.calls ?_
 unfold YN
 have hnx := Gs.kM (cur + 1) (N := n) (by omega)
 have hF : aB (· = bp) w w := Fr.refl _ _ _
 refine aA (ed ag ae hn) (fun w1 U1 => ?_)
 replace ae := ae.ai U1
 replace ag := U1.af ag
 refine aA (lg ag ae hn (i := cur) (j := 1) hp hN hb) (fun w2 U2 => ?_)
 replace ae := ae.ai U2
 replace ag := U2.af ag
 refine aI (mF ag ae hn (i := ((cur + 1) % (n : Int))) (by omega)) (fun v3 w3 D3 => ?_)
 obtain ⟨rfl, N3, U3⟩ := D3
 replace ae := ae.aF U3 (Own.aT ae (by assumption) (by decide))
 replace ag := N3
 replace hF := (hF.go0 U1).go0 U2
 replace hF := hF.go U3 (fun i _ h => h)
 refine aA (gy ag ae hn (i := ((cur + 1) % (n : Int)))) (fun w4 U4 => ?_)
 obtain ⟨xb, xg, xl, xc, hxe⟩ : ∃ b g l c, Gs.bH cs ((cur + 1) % (n : Int)) = ⟨b, g, false, l, c⟩ := ⟨_, _, _, _, by rw [← hx]⟩
 rw [hxe]
 refine Z.n ((Gs.cv Gs.zc).toArray) (fun b5 w5 e5 cO _ U5 => ?_)
 replace ag := U4.af ag
 have jT : bp ≠ b5 := by have := aj ag; omega
 replace hF := hF.go0 U4
 have iM : w.heap.size ≤ b5 := by have := hF.size; omega
 refine Z.t 5 ((Gs.cv ⟨xb, xg, false, xl, xc⟩).toArray) (by (simp [Value.cells, Value.oneCell', Gs.cv, Gs.fv, Gs.ie]; done)) cO (fun w6 cO _ U6 => ?_)
 refine Z.f 2 ?_
 refine Z.l cO ?_
 refine aP (aP (aP (aQ (aH ?_))))
 refine Z.f 2 ?_
 refine Z.l cO ?_
 refine aH ?_
 replace ag := U6.au (U5.af ag) jT
 replace hF := (hF.go0 U5).go1 U6 iM
 exact ⟨_, rfl, rfl, ag, hF⟩
theorem Ux {r c cur : Int} {A : Option Addr} {n cp bp B0 : Nat} {cs : List Gs.Cell} {w : World} (ag : Z.h w bp #[Z.i r, Z.i c, .slice A n cp, Z.i cur] 91) (ae : Own B0 w 37 5 (.slice A n cp) (rows Gs.cv cs)) (hn : n = cs.length) {x : Int} (hN : Gs.aY r c = n) (hb : n ≤ 4096) (hcw : Gs.je cs) (hof : Gs.mD cs cur = true) (hop : Gs.jI cs cur = true) (hnm : ¬ (Gs.mX cs cur).a / 16 % 2 = 1)  :
    oX 71 #[Z.p bp, Z.u x] w fun e w' => e = .returned (Z.i 0) ∧ aB no w w' := by
 refine Su.calls ?_
 unfold Su
 have hF : aB no w w := Fr.refl _ _ _
 refine aA (ed ag ae hn) (fun w1 U1 => ?_)
 replace ae := ae.ai U1
 replace ag := U1.af ag
 refine aA (sN ag ae hn hN hb hcw (i := cur)) (fun w2 U2 => ?_)
 rw [hof]
 refine Z.e ?_
 refine Z.e ?_
 refine Z.n ((Gs.fv Gs.zf).toArray) (fun b3 w3 e3 bG _ U3 => ?_)
 replace ag := U2.af ag
 have lm : bp ≠ b3 := by have := aj ag; omega
 replace ae := ae.ai U2
 have iO := ae.apart e3
 replace hF := (hF.go0 U1).go0 U2
 have jH : w.heap.size ≤ b3 := by have := hF.size; omega
 refine Z.t 3 ((Gs.fv (Gs.mX cs cur)).toArray) (by (simp [Value.cells, Value.oneCell', Gs.cv, Gs.fv, Gs.ie]; done)) bG (fun w4 bG _ U4 => ?_)
 replace ae := (ae.ai U3).aF U4 iO
 replace ag := U4.au (U3.af ag) lm
 refine aA (ed ag ae hn) (fun w5 U5 => ?_)
 replace ae := ae.ai U5
 replace ag := U5.af ag
 refine o9 (oZ ag ae hn hN hb hcw (i := cur)) (hop) (fun w6 U6 => ?_)
 refine ak (jE) ?_
 refine aH (aV ?_)
 refine Z.f 2 ?_
 refine aV ?_
 replace bG := U6.af (U5.af bG)
 refine Z.l bG ?_
 refine aV ?_
 refine L9 (Au (Gs.aay hcw cur)) (decide_eq_false hnm) (fun w7 U7 => ?_)
 refine aU (aP (aP (aP (aQ (aH ?_)))))
 replace hF := ((((hF.go0 U3).go1 U4 jH).go0 U5).go0 U6).go0 U7
 exact ⟨rfl, hF⟩
theorem Uy {r c cur : Int} {A : Option Addr} {n cp bp B0 : Nat} {cs : List Gs.Cell} {w : World} (ag : Z.h w bp #[Z.i r, Z.i c, .slice A n cp, Z.i cur] 91) (ae : Own B0 w 37 5 (.slice A n cp) (rows Gs.cv cs)) (hn : n = cs.length) {x : Int} (hp : 0 < n) (hN : Gs.aY r c = n) (hb : n ≤ 4096) (hcw : Gs.je cs) (hxb : 0 ≤ x ∧ x ≤ 255) (hof : Gs.mD cs cur = true) (hop : Gs.jI cs cur = true) (hnm : ¬ (Gs.mX cs cur).a / 16 % 2 = 1) (hx : (Gs.bH (Gs.lT (Gs.iC cs cur ⟨x, false, false, (Gs.bH cs cur).l, (Gs.bH cs cur).c⟩) cur) ((cur + 1) % (n : Int))).st = false)  :
    oX 37 #[Z.p bp, Z.u x, .bool false] w fun e w' => ∃ v, e = .returned v ∧ v = Z.i 0 ∧ Z.h w' bp #[Z.i r, Z.i c, .slice A n cp, Z.i ((cur + 1) % (n : Int))] 91 ∧ Own B0 w' 37 5 (.slice A n cp) (rows Gs.cv (Gs.lT (Gs.iC cs cur ⟨x, false, false, (Gs.bH cs cur).l, (Gs.bH cs cur).c⟩) cur)) ∧ aB (fun k => aG (.slice A n cp) k ∨ k = bp) w w' := by
 refine Sv.calls ?_
 unfold Sv
 have hl1 : n = (Gs.iC cs cur ⟨x, false, false, (Gs.bH cs cur).l, (Gs.bH cs cur).c⟩).length := by rw [Gs.mg]; exact hn
 have hw1 : Gs.je (Gs.iC cs cur ⟨x, false, false, (Gs.bH cs cur).l, (Gs.bH cs cur).c⟩) := hcw.iC (show Gs.Cw ⟨x, false, false, (Gs.bH cs cur).l, (Gs.bH cs cur).c⟩ from hxb) _
 have hl2 : n = (Gs.lT (Gs.iC cs cur ⟨x, false, false, (Gs.bH cs cur).l, (Gs.bH cs cur).c⟩) cur).length := by rw [Gs.EK]; exact hl1
 have hcur := Gs.J8 hop
 have hF : aB (fun k => aG (.slice A n cp) k ∨ k = bp) w w := Fr.refl _ _ _
 refine aA (ed ag ae hn) (fun w1 U1 => ?_)
 replace ae := ae.ai U1
 replace ag := U1.af ag
 refine aA (Ux ag ae hn (x := x) hN hb hcw hof hop hnm) (fun w2 U2 => ?_)
 refine jQ (jO _ _ _ _ _) (fun h => h rfl) ?_
 refine aH ?_
 replace ae := ae.ai U2
 replace ag := U2.af ag
 refine aA (gy ag ae hn (i := cur)) (fun w3 U3 => ?_)
 refine Z.n ((Gs.cv Gs.zc).toArray) (fun b4 w4 e4 eP _ U4 => ?_)
 replace ag := U3.af ag
 have qF : bp ≠ b4 := by have := aj ag; omega
 replace ae := ae.ai U3
 have mW := ae.apart e4
 replace hF := ((hF.go0 U1).go0 U2).go0 U3
 have nO : w.heap.size ≤ b4 := by have := hF.size; omega
 refine Z.t 5 ((Gs.cv (Gs.bH cs cur)).toArray) (by (simp [Value.cells, Value.oneCell', Gs.cv, Gs.fv, Gs.ie]; done)) eP (fun w5 eP _ U5 => ?_)
 refine bQ (fun g w' => (Z.h w' bp #[Z.i r, Z.i c, .slice A n cp, Z.i cur] 91) ∧ (Own B0 w' 37 5 (.slice A n cp) (rows Gs.cv cs)) ∧ (Z.h w' b4 ((Gs.cv (Gs.bH cs cur)).toArray) 37) ∧ (aB (fun k => aG (.slice A n cp) k ∨ k = bp) w w')) (fun J1 hJ1 => ?_) (fun gJ1 jY hI => ?_)
 refine aH ?_
 refine hJ1 _ _ ?_
 replace ae := (ae.ai U4).aF U5 mW
 replace ag := U5.au (U4.af ag) qF
 replace hF := (hF.go0 U4).go1 U5 nO
 exact ⟨ag, ae, eP, hF⟩
 replace ae := (ae.ai U4).aF U5 mW
 replace ag := U5.au (U4.af ag) qF
 replace hF := (hF.go0 U4).go1 U5 nO
 obtain ⟨ag, ae, eP, hF⟩ := hI
 refine Z.f 3 ?_
 refine Z.l eP ?_
 refine Z.f 4 ?_
 refine Z.l eP ?_
 refine ak (bF (l := [(0, 1), (1, 1), (2, 1), (3, 1), (4, 1)]) (z := #[Z.u 0, .bool false, .bool false, Z.u 0, Z.u 0]) (cs := Gs.cv ⟨x, false, false, (Gs.bH cs cur).l, (Gs.bH cs cur).c⟩) (by kernel_rfl) (by rfl)) ?_
 refine aI (jZ ag ae hn (i := cur) (x := ⟨x, false, false, (Gs.bH cs cur).l, (Gs.bH cs cur).c⟩)) (fun v7 w7 D7 => ?_)
 obtain ⟨rfl, N7, U7⟩ := D7
 have aN := ae
 replace ag := U7.get ag (fun h => Own.aT aN ag (by decide) _ h rfl)
 replace ae := N7
 replace hF := hF.go U7 (fun i h hs => .inl hs)
 clear aN
 refine aI (wP ag ae hl1 hN hb hw1 (i := cur)) (fun v8 w8 D8 => ?_)
 obtain ⟨rfl, N8, U8⟩ := D8
 have aN := ae
 replace ag := U8.get ag (fun h => Own.aT aN ag (by decide) _ h rfl)
 replace ae := N8
 replace hF := hF.go U8 (fun i h hs => .inl hs)
 clear aN
 refine aI (Lu ag ae hl2 hp hN hb hx) (fun v9 w9 D9 => ?_)
 obtain ⟨rfl, N9, U9⟩ := D9
 replace ae := ae.aF U9 (Own.aT ae (by assumption) (by decide))
 replace ag := N9
 replace hF := hF.go U9 (fun i _ h => .inr h)
 exact ⟨_, rfl, rfl, ag, ae, hF⟩
theorem fJ {r0 c0 r1 c1 wh : Int} {bs : Nat} {bp : Nat} {w : World} (ax : Z.h w bs #[Z.i r0, Z.i c0, Z.i r1, Z.i c1, Z.i wh, Z.p bp] 89)  :
    oX 13 #[Z.p bs] w fun e w' => e = .returned (Z.p bp) ∧ aB no w w' := by
 refine F13.calls ?_
 unfold F13
 have hF : aB no w w := Fr.refl _ _ _
 refine dB ?_
 refine Z.f 5 ?_
 refine Z.l ax ?_
 exact ⟨rfl, hF⟩
theorem XL {r0 c0 r1 c1 wh : Int} {bs : Nat} {pv : Value} {w : World} (ax : Z.h w bs #[Z.i r0, Z.i c0, Z.i r1, Z.i c1, Z.i wh, pv] 89) (hz : (Gs.aY r0 c0) ≠ 0) :
    oX 82 #[Z.p bs, Z.i 0] w fun e w' => ∃ v, e = .returned v ∧ ∃ bp g, Z.h w' bs #[Z.i r0, Z.i c0, Z.i r1, Z.i c1, Z.i 0, Z.p bp] 89 ∧ w.heap.size ≤ bp ∧ Z.h w' bp #[Z.i r0, Z.i c0, .slice (some ⟨g, 0, none⟩) (Gs.aY r0 c0).toNat (Gs.aY r0 c0).toNat, Z.i 0] 91 ∧ Own w.heap.size w' 37 5 (.slice (some ⟨g, 0, none⟩) (Gs.aY r0 c0).toNat (Gs.aY r0 c0).toNat) (rows Gs.cv (List.replicate (Gs.aY r0 c0).toNat Gs.zc)) ∧ aB (· = bs) w w' := by
 refine SE.calls ?_
 unfold SE
 have hF : aB (· = bs) w w := Fr.refl _ _ _
 refine dB ?_
 refine Z.f 4 ?_
 refine Z.s ax (fun w1 ax _ U1 => ?_)
 replace hF := hF.go U1 (fun i _ h => h)
 refine dB ?_
 refine Z.f 0 ?_
 refine ak (IJ (n := 2) (m := 2) (by kernel_rfl) (by omega) (by omega)) ?_
 refine Z.b 2 _ ax ?_
 refine aI (wZ (r := r0) (c := c0) hz) (fun v2 w2 D2 => ?_)
 obtain ⟨bp, g, rfl, gbp, ag, ae, U2⟩ := D2
 have uV : bs ≠ bp := by have := aj ax; omega
 have qB : w.heap.size ≤ bp := by have := hF.size; omega
 replace ae := ae.mono (B' := w.heap.size) hF.size
 refine Z.e ?_
 refine Z.e ?_
 refine dB ?_
 refine Z.f 5 ?_
 replace ax := U2.af ax
 refine Z.s ax (fun w3 ax _ U3 => ?_)
 replace ae := ae.aF U3 (Own.aT ae (by assumption) (by decide))
 replace hF := hF.go0 U2
 replace hF := hF.go U3 (fun i _ h => h)
 replace ag := U3.au ag (Ne.symm uV)
 exact ⟨_, rfl, bp, g, ax, qB, ag, ae, hF⟩
theorem YC {r0 c0 r1 c1 wh : Int} {bs : Nat} {pv : Value} {w : World} (ax : Z.h w bs #[Z.i r0, Z.i c0, Z.i r1, Z.i c1, Z.i wh, pv] 89) (hz : (Gs.aY r0 c0) ≠ 0) :
    oX 44 #[Z.p bs] w fun e w' => ∃ v, e = .returned v ∧ ∃ bp g, Z.h w' bs #[Z.i r0, Z.i c0, Z.i r1, Z.i c1, Z.i 0, Z.p bp] 89 ∧ w.heap.size ≤ bp ∧ Z.h w' bp #[Z.i r0, Z.i c0, .slice (some ⟨g, 0, none⟩) (Gs.aY r0 c0).toNat (Gs.aY r0 c0).toNat, Z.i 0] 91 ∧ Own w.heap.size w' 37 5 (.slice (some ⟨g, 0, none⟩) (Gs.aY r0 c0).toNat (Gs.aY r0 c0).toNat) (rows Gs.cv (List.replicate (Gs.aY r0 c0).toNat Gs.zc)) ∧ aB (· = bs) w w' := by
 refine YR.calls ?_
 unfold YR
 have hF : aB (· = bs) w w := Fr.refl _ _ _
 refine aI (XL ax hz) (fun v1 w1 D1 => ?_)
 obtain ⟨bp, g, N1, gbp, ag, ae, U1⟩ := D1
 have qB : w.heap.size ≤ bp := by have := hF.size; omega
 replace ae := ae.mono (B' := w.heap.size) hF.size
 replace ax := N1
 replace hF := hF.go U1 (fun i _ h => h)
 exact ⟨_, rfl, bp, g, ax, qB, ag, ae, hF⟩
theorem zK {r0 c0 r1 c1 : Int} {w : World} (hz : (Gs.aY r0 c0) ≠ 0) (hz1 : Gs.aY r1 c1 ≠ 0) :
    oX 12 #[.agg #[Z.i r0, Z.i c0], .agg #[Z.i r1, Z.i c1]] w fun e w' => ∃ v, e = .returned v ∧ ∃ bs bp g, v = .tuple #[Z.p bs, Z.i 0] ∧ w.heap.size ≤ bs ∧ w.heap.size ≤ bp ∧ Z.h w' bs #[Z.i r0, Z.i c0, Z.i r1, Z.i c1, Z.i 0, Z.p bp] 89 ∧ Z.h w' bp #[Z.i r0, Z.i c0, .slice (some ⟨g, 0, none⟩) (Gs.aY r0 c0).toNat (Gs.aY r0 c0).toNat, Z.i 0] 91 ∧ Own w.heap.size w' 37 5 (.slice (some ⟨g, 0, none⟩) (Gs.aY r0 c0).toNat (Gs.aY r0 c0).toNat) (rows Gs.cv (List.replicate (Gs.aY r0 c0).toNat Gs.zc)) ∧ aB no w w' := by
 refine SC.calls ?_
 unfold SC
 have hF : aB no w w := Fr.refl _ _ _
 refine Z.x (#[Z.i r0, Z.i c0]) (fun b1 w1 e1 ah _ U1 => ?_)
 refine Z.x (#[Z.i r1, Z.i c1]) (fun b2 w2 e2 ay _ U2 => ?_)
 replace ah := U2.af ah
 refine Z.b 2 (#[Z.i r0, Z.i c0]) ah ?_
 refine aA (qm (r := r0) (c := c0)) (fun w3 U3 => ?_)
 refine jQ (dh _ _ _ _ _) (hz) ?_
 refine aW ?_
 replace ay := U3.af ay
 refine Z.b 2 (#[Z.i r1, Z.i c1]) ay ?_
 refine aW ?_
 refine aA (qm (r := r1) (c := c1)) (fun w4 U4 => ?_)
 refine aW ?_
 refine jQ (dh _ _ _ _ _) (hz1) ?_
 refine aQ (aH ?_)
 replace ah := U4.af (U3.af ah)
 refine Z.b 2 (#[Z.i r0, Z.i c0]) ah ?_
 replace ay := U4.af ay
 refine Z.b 2 (#[Z.i r1, Z.i c1]) ay ?_
 refine ak (uD (n := 2) (m := 2) (z := #[Z.i 0, Z.i 0, Z.i 0, Z.i 0]) (by kernel_rfl) (by kernel_rfl) (by (simp [eH, splice, fO, Value.cells]; rfl))) ?_
 refine ak (bF (l := [(0, 4), (4, 1), (5, 1)]) (z := #[Z.i 0, Z.i 0, Z.i 0, Z.i 0, Z.i 0, .pointer none]) (cs := [Z.i r0, Z.i c0, Z.i r1, Z.i c1, Z.i 0, .pointer none]) (by kernel_rfl) (by rfl)) ?_
 refine Z.x (#[Z.i r0, Z.i c0, Z.i r1, Z.i c1, Z.i 0, .pointer none]) (fun b7 w7 e7 kT _ U7 => ?_)
 replace hF := (((hF.go0 U1).go0 U2).go0 U3).go0 U4
 have ul : w.heap.size ≤ b7 := by have := hF.size; omega
 refine aI (YC kT hz) (fun v8 w8 D8 => ?_)
 obtain ⟨bp, g, N8, gbp, ag, ae, U8⟩ := D8
 replace hF := hF.go0 U7
 have qB : w.heap.size ≤ bp := by have := hF.size; omega
 replace ae := ae.mono (B' := w.heap.size) hF.size
 replace kT := N8
 replace hF := hF.go1 U8 ul
 exact ⟨_, rfl, _, bp, g, rfl, ul, qB, kT, ag, ae, hF⟩
theorem Xb {bs : Nat} {w : World} :
    oX 15 #[Z.p bs] w fun e w' => ∃ v, e = .returned v ∧ ∃ bk, v = Z.p bk ∧ w.heap.size ≤ bk ∧ Z.h w' bk #[Z.p bs, Z.i 0, Z.i 0, Z.i 0, .bool false, Z.u 96] 95 ∧ aB no w w' := by
 refine F15.calls ?_
 unfold F15
 have hF : aB no w w := Fr.refl _ _ _
 refine ak (bF (l := [(0, 1), (1, 3), (4, 1), (5, 1)]) (z := #[.pointer none, Z.i 0, Z.i 0, Z.i 0, .bool false, Z.u 0]) (cs := [Z.p bs, Z.i 0, Z.i 0, Z.i 0, .bool false, Z.u 96]) (by kernel_rfl) (by rfl)) ?_
 refine Z.x (#[Z.p bs, Z.i 0, Z.i 0, Z.i 0, .bool false, Z.u 96]) (fun b2 w2 e2 ay _ U2 => ?_)
 have fD : w.heap.size ≤ b2 := by have := hF.size; omega
 replace hF := hF.go0 U2
 exact ⟨_, rfl, _, rfl, fD, ay, hF⟩
theorem uJ {bk bs : Nat} {st why tn last : Int} {ins : Bool} {w : World} (aC : Z.h w bk #[Z.p bs, Z.i st, Z.i why, Z.i tn, .bool ins, Z.u last] 95)  :
    oX 16 #[Z.p bk] w fun e w' => e = .returned (.pointer (some ⟨bk, 1, none⟩)) ∧ aB no w w' := by
 refine F16.calls ?_
 unfold F16
 have hF : aB no w w := Fr.refl _ _ _
 refine dB ?_
 refine Z.f 1 ?_
 exact ⟨rfl, hF⟩
end Go.Proofs.YtjdoakbadehicaaGreatDoor
end
section
namespace Gs
open Go Go.Sh
section
variable {cs : List Cell} {z : Nat} {l : List Int}
def ag0 (cs : List Cell) (i x : Int) : List Cell := lT (iC cs i ⟨x, false, false, (bH cs i).l, (bH cs i).c⟩) i
theorem rC.put (h : rC cs z l) (hl : l.length < z) {i : Int} (hi : i = (l.length : Int) + 1) (x : Int) : rC (ag0 cs i x) z (l ++ [x]) := by
 subst hi
 have := h.2.2.2.1 ((l.length : Int) + 1) (by omega)
 unfold ag0
 rw [this]
 exact h.step hl x
theorem rC.next (h : rC cs z l) (hl : l.length + 2 ≤ z) {i : Int} (hi : i = (l.length : Int) + 1) (x : Int) : (bH (ag0 cs i x) ((i + 1) % ((z + 3 : Nat) : Int))).st = false := by
 have h2 := h.put (by omega) hi x
 rw [Int.emod_eq_of_lt (by omega) (by omega)]
 exact h2.st (by simp only [List.length_append, List.length_cons, List.length_nil]; omega) (by omega)
end
end Gs
end
section
namespace Gs
open Go Go.Sh
def Pw (r c : Int) (n : Nat) (cs : List Cell) (cur : Int) : Prop := n = cs.length ∧ je cs ∧ (0 ≤ cur ∧ cur < n) ∧ 0 < n ∧ aY r c = n ∧ n ≤ 4096
section
variable {r c cur : Int} {n : Nat} {cs : List Cell}
theorem Pw.set (h : Pw r c n cs cur) (i : Int) {x : Cell} (hx : Cw x) : Pw r c n (iC cs i x) cur := ⟨by rw [mg]; exact h.1, h.2.1.iC hx i, h.2.2⟩
theorem Pw.mark (h : Pw r c n cs cur) (i : Int) : Pw r c n (lT cs i) cur := ⟨by rw [EK]; exact h.1, ajl h.2.1 i, h.2.2⟩
theorem Pw.unm (h : Pw r c n cs cur) (l : List Nat) : Pw r c n (rJ cs l) cur := ⟨by rw [← Gz]; exact h.1, UB h.2.1 l, h.2.2⟩
theorem Pw.at (h : Pw r c n cs cur) {i : Int} (hi : 0 ≤ i ∧ i < n) : Pw r c n cs i := ⟨h.1, h.2.1, hi, h.2.2.2⟩
theorem Pw.fill (h : Pw r c n cs cur) (l : List Int) {x : Cell} (hx : Cw x) : Pw r c n (sQ cs l x) cur := ⟨by rw [VK]; exact h.1, h.2.1.fill hx l, h.2.2⟩
theorem Pw.rc (h : Pw r c n cs cur) : 1 ≤ r ∧ r ≤ 43 ∧ 1 ≤ c ∧ c ≤ 132 ∧ r * c = n := by
 have hN := h.2.2.2.2.1
 have hp := h.2.2.2.1
 unfold aY at hN
 split at hN
 ·omega
 ·rename_i hh
  exact ⟨by omega, by omega, by omega, by omega, hN⟩
end
def Kp (cs cs' : List Cell) : Prop := cs'.length = cs.length ∧ ∀ i : Int, stB cs' i = stB cs i ∧ (stB cs i = true → bH cs' i = bH cs i)
theorem Kp.refl (cs : List Cell) : Kp cs cs := ⟨rfl, fun _ => ⟨rfl, fun _ => rfl⟩⟩
theorem PI (cs : List Cell) (i j : Int) (x : Cell) : bH (iC cs i x) j = if i = j ∧ 0 ≤ i ∧ i < cs.length then x else bH cs j := by
 by_cases hi : 0 ≤ i ∧ i < cs.length
 ·by_cases hj : 0 ≤ j ∧ j < cs.length
  ·rw [Ku hi hj]
   by_cases e : i = j
   ·rw [if_pos e, if_pos ⟨e, hi⟩]
   ·rw [if_neg e, if_neg (fun h => e h.1)]
  ·rw [yJ (by rw [mg]; exact hj), yJ hj, if_neg (by omega)]
 ·rw [NZ x hi, if_neg (fun h => hi h.2)]
theorem Kp.set {cs cs' : List Cell} (h : Kp cs cs') {i : Int} {x : Cell} (hi : stB cs i = false) (hx : x.st = false) : Kp cs (iC cs' i x) := by
 refine ⟨by rw [mg]; exact h.1, fun j => ?_⟩
 show (bH (iC cs' i x) j).st = _ ∧ _
 rw [PI]
 by_cases e : i = j ∧ 0 ≤ i ∧ i < cs'.length
 ·rw [if_pos e]
  obtain ⟨rfl, _⟩ := e
  exact ⟨by rw [hx, hi], fun h => by rw [hi] at h; cases h⟩
 ·rw [if_neg e]; exact h.2 j
def Mk (cs cs' : List Cell) (i : Int) : Prop := ∃ c1, Kp cs c1 ∧ cs' = lT c1 i
def vY (cs : List Cell) (l : List Int) : Prop := ∀ x ∈ l, (0 ≤ x ∧ x < cs.length) ∧ stB cs x = false
theorem vY.nil (cs : List Cell) : vY cs [] := fun _ h => by cases h
theorem vY.snoc {cs : List Cell} {l : List Int} (h : vY cs l) {x : Int} (hx : (0 ≤ x ∧ x < cs.length) ∧ stB cs x = false) : vY cs (l ++ [x]) := fun y hy => by
 rcases List.mem_append.1 hy with hy | hy
 ·exact h y hy
 ·cases List.mem_singleton.1 hy; exact hx
theorem vY.get {cs : List Cell} {l : List Int} (h : vY cs l) {k : Nat} {x : Int} (hx : l[k]? = some x) : (0 ≤ x ∧ x < cs.length) ∧ stB cs x = false := h x (List.mem_of_getElem? hx)
theorem Vy {cs : List Cell} {i : Int} (hi : 0 ≤ i ∧ i < cs.length) (h : mD cs i = false) {j : Int} (hj : 0 ≤ j ∧ j < cs.length) : (0 ≤ j ∧ j < cs.length) ∧ stB cs j = false :=
 ⟨hj, QS hi (by have := of_decide_eq_false h; exact Classical.not_not.1 this) j hj⟩
theorem aaJ {cs : List Cell} {i : Int} (h : mD cs i = true) : ¬ gY cs i < 0 ∧ mX cs i = lG cs (gY cs i) := by
 have := of_decide_eq_true h
 exact ⟨this, by unfold mX; rw [if_neg this]⟩
theorem alB {cs : List Cell} {i : Int} (hi : 0 ≤ i ∧ i < cs.length) (h : mD cs i = true) : ∃ k : Nat, (allM cs)[k]? = some (mX cs i) := by
 obtain ⟨h1, h2⟩ := aaJ h
 obtain ⟨h3, h4, h5, _⟩ := VL hi h1
 have hm : mX cs i ∈ allM cs := by
  rw [h2]
  exact List.mem_map.2 ⟨_, FQ.2 ⟨⟨h3, h4⟩, h5⟩, rfl⟩
 exact List.getElem?_of_mem hm
theorem row_in {cs : List Cell} {i : Int} (hi : 0 ≤ i ∧ i < cs.length) (h : mD cs i = true) {k : Nat} {x : Int} (hx : (iP cs.length (mX cs i))[k]? = some x) : (0 ≤ x ∧ x < cs.length) ∧ stB cs x = false := by
 obtain ⟨q, hq⟩ := alB hi h
 exact ⟨Ie hx, SB hq x (List.mem_of_getElem? hx)⟩
theorem alx {cs : List Cell} {i : Int} (ho : jI cs i = true) (h : mD cs i = true) : ∃ j : Nat, (iP cs.length (mX cs i))[j]? = some i := by
 have hi := J8 ho
 obtain ⟨h1, h2⟩ := aaJ h
 obtain ⟨h3, h4, h5, j, hj, hx⟩ := VL hi h1
 have hne : gY cs i ≠ i := by
  unfold jI at ho
  rw [if_neg h1] at ho
  exact of_decide_eq_true ((Bool.and_eq_true _ _).mp ho).1
 obtain ⟨L, q1, q2, _⟩ := len_eq ⟨h3, h4⟩ h5
 have hj1 : 1 ≤ j := by
  rcases Nat.eq_zero_or_pos j with rfl | hh
  ·exfalso; rw [Int.natCast_zero, Int.add_zero, Int.emod_eq_of_lt h3 h4] at hx; exact hne hx.symm
  ·exact hh
 rw [h2]
 have hs : (lG cs (gY cs i)).s = gY cs i := rfl
 have hl : (lG cs (gY cs i)).l = wU cs (gY cs i) := rfl
 have hpl := uP (N := cs.length) (f := lG cs (gY cs i)) (by rw [hs]; exact ⟨h3, h4⟩)
 refine ⟨j - 1, ?_⟩
 rw [yU (by rw [hl] at hpl; omega), hs, show (j - 1 + 1 : Nat) = j by omega, ← hx]
theorem Mk.of {cs : List Cell} {i : Int} {x : Cell} (hi : stB cs i = false) (hx : x.st = false) {c1 : List Cell} (h : Kp cs c1) : Mk cs (lT (iC c1 i x) i) i := ⟨_, h.set hi hx, rfl⟩
theorem aji {cs : List Cell} {i : Int} (h : jI cs i = true) : stB cs i = false := by
 have hi := J8 h
 cases hs : stB cs i with
 | false => rfl
 | true =>
  exfalso
  unfold jI at h
  rw [VM hi hs, if_neg (by omega)] at h
  simp at h
theorem ajf (i : Int) {r : Int} (hr : 1 ≤ r) (hi : -1 ≤ i ∧ i ≤ 1) : -1 ≤ Int.tmod i r ∧ Int.tmod i r ≤ 1 := by
 have h : i = -1 ∨ i = 0 ∨ i = 1 := by omega
 rcases h with rfl | rfl | rfl
 ·by_cases h1 : r = 1
  ·subst h1; decide
  ·rw [Int.neg_tmod, Int.tmod_eq_emod_of_nonneg (by decide), Int.emod_eq_of_lt (by decide) (by omega)]; decide
 ·rw [Int.zero_tmod]; decide
 ·by_cases h1 : r = 1
  ·subst h1; decide
  ·rw [Int.tmod_eq_emod_of_nonneg (by decide), Int.emod_eq_of_lt (by decide) (by omega)]; decide
theorem alm {a : Int} (h : -1 ≤ a ∧ a ≤ 1) (c : Int) : a * c = -c ∨ a * c = 0 ∨ a * c = c := by
 have h : a = -1 ∨ a = 0 ∨ a = 1 := by omega
 rcases h with rfl | rfl | rfl
 ·left; omega
 ·right; left; omega
 ·right; right; omega
end Gs
namespace Gs
theorem aaN {cs cs' : List Cell} (hl : cs'.length = cs.length) (hs : ∀ i : Int, stB cs' i = stB cs i) (a s : Int) : lU cs' a s = lU cs a s := by
 unfold lU CS
 simp only [hl, hs]
theorem Kp.VF {cs cs' : List Cell} (h : Kp cs cs') (i : Int) : gY cs' i = gY cs i := aaN h.1 (fun j => (h.2 j).1) _ _
theorem Mk.free {cs c1 : List Cell} {i : Int} (h : Kp cs c1) (ho : mD cs i = false) : Mk cs c1 i :=
 ⟨c1, h, by rw [QT]; rw [h.VF]; have := of_decide_eq_false ho; exact Classical.not_not.1 this⟩
theorem Kp.trans {a b c : List Cell} (h : Kp a b) (k : Kp b c) : Kp a c := ⟨k.1.trans h.1, fun i => ⟨(k.2 i).1.trans (h.2 i).1, fun hi => ((k.2 i).2 ((h.2 i).1.trans hi)).trans ((h.2 i).2 hi)⟩⟩
theorem Kp.fill {cs : List Cell} {x : Cell} (hx : x.st = false) : ∀ {l : List Int} {c1 : List Cell}, Kp cs c1 → (∀ i ∈ l, (0 ≤ i ∧ i < cs.length) ∧ stB cs i = false) → Kp cs (sQ c1 l x)
 | [], _, h, _ => h
 | i :: l, c1, h, hl => by
  have hi := hl i (List.mem_cons_self ..)
  show Kp cs (sQ (c1.set i.toNat x) l x)
  rw [← GG x hi.1.1 (by rw [h.1]; exact hi.1.2)]
  exact Kp.fill hx (h.set hi.2 hx) fun j hj => hl j (List.mem_cons_of_mem _ hj)
def rM (cs : List Cell) (l : List Nat) : List Cell := l.foldl (fun c (s : Nat) => if uo (lG cs s).a = true then c else rO false c s) cs
theorem VN {cs : List Cell} {l : List Nat} {k s : Nat} (h : l[k]? = some s) : rM cs (l.take (k + 1)) = if uo (lG cs s).a = true then rM cs (l.take k) else rO false (rM cs (l.take k)) s := by
 unfold rM; rw [List.take_add_one, h]; simp [List.foldl_append]
theorem LK {P : List Cell → Prop} {cs : List Cell} (h0 : P cs) (hs : ∀ c s, P c → P (rO false c s)) (l : List Nat) : P (rM cs l) := by
 have : ∀ (l : List Nat) (c : List Cell), P c → P (l.foldl (fun c (s : Nat) => if uo (lG cs s).a = true then c else rO false c s) c) := by
  intro l
  induction l with
  | nil => exact fun _ h => h
  | cons s l ih => exact fun c h => ih _ (by show P (if _ then _ else _); split; exact h; exact hs c s h)
 exact this l cs h0
theorem yV (cs : List Cell) (l : List Nat) : cs.length = (rM cs l).length := (LK (P := fun c => c.length = cs.length) rfl (fun c s h => by rw [DV]; exact h) l).symm
theorem LM {cs : List Cell} (h : je cs) (l : List Nat) : je (rM cs l) := LK h (fun c s h => VO h s) l
theorem adm (cs : List Cell) (l : List Nat) (i : Int) : stB (rM cs l) i = stB cs i := LK (P := fun c => stB c i = stB cs i) rfl (fun c s h => by rw [VP]; exact h) l
theorem ajm {cs : List Cell} {s : Nat} {l : List Nat} (h : s ∉ l) : bH (rM cs l) s = bH cs s := by
 have : ∀ (l : List Nat) (c : List Cell), s ∉ l → bH (l.foldl (fun c (s : Nat) => if uo (lG cs s).a = true then c else rO false c s) c) s = bH c s := by
  intro l
  induction l with
  | nil => exact fun _ _ => rfl
  | cons t l ih =>
   intro c hs
   have ht : s ≠ t := fun e => hs (by rw [e]; exact List.mem_cons_self ..)
   rw [List.foldl_cons, ih _ (fun hm => hs (List.mem_cons_of_mem _ hm))]
   split
   ·rfl
   ·rw [AA, if_neg (fun hh => ht (by have := hh.1; omega))]
 exact this l cs h
theorem VQ {cs : List Cell} {k s : Nat} (hx : (dm cs)[k]? = some s) : (lG (rM cs ((dm cs).take k)) s).a = (lG cs s).a := by
 show (bH _ _).b % 64 = (bH _ _).b % 64
 rw [ajm (Nj hx)]
theorem Pw.opn {r c cur : Int} {n : Nat} {cs : List Cell} (h : Pw r c n cs cur) (l : List Nat) : Pw r c n (rM cs l) cur := ⟨by rw [← yV]; exact h.1, LM h.2.1 l, h.2.2⟩
end Gs
namespace Go.Sh
open Go
theorem aly {k : Nat} {v v' : Value} (h : v = .int .i64 k) (h' : v' = .int .i64 ((k : Int) - 1)) (hk : 0 < k) : (RowKit.intOf v').toNat < (RowKit.intOf v).toNat := by
 subst h; subst h'
 simp only [RowKit.intOf]
 omega
theorem aaF {b : Nat} : ¬ aG (.slice none 0 0) b := fun h => by cases h
end Go.Sh
namespace Gs
theorem afE {N i j x : Int} (h : x ∈ rH N i j) : 0 ≤ x ∧ x < N := by
 obtain ⟨k, hk⟩ := List.getElem?_of_mem h
 exact VR hk
def Gc (x : Cell) : Prop := x.st = true → x.ge = false
def Gw (cs : List Cell) : Prop := ∀ i : Int, Gc (bH cs i)
theorem Gw.set {cs : List Cell} (h : Gw cs) {x : Cell} (hx : Gc x) (i : Int) : Gw (iC cs i x) := fun j => by
 rw [PI]
 split
 ·exact hx
 ·exact h j
theorem Gw.mod {cs : List Cell} (h : Gw cs) (q : Bool) (i : Int) : Gw (rO q cs i) := h.set (show Gc (AB q (bH cs i)) from h i) i
theorem Gw.mark {cs : List Cell} (h : Gw cs) (i : Int) : Gw (lT cs i) := by
 unfold lT
 split
 ·exact h
 ·exact h.mod _ _
theorem Gw.kp {cs c1 : List Cell} (h : Gw cs) (k : Kp cs c1) : Gw c1 := fun i hs => by
 have h1 : stB cs i = true := (k.2 i).1.symm.trans hs
 rw [(k.2 i).2 h1]
 exact h i h1
theorem Gw.mk {cs c1 : List Cell} (h : Gw cs) {i : Int} (k : Mk cs c1 i) : Gw c1 := by
 obtain ⟨c0, h1, rfl⟩ := k
 exact (h.kp h1).mark i
def ER (k q : Int) (cs c1 : List Cell) (cur cur1 : Int) : Prop :=
 ((k = 1 ∨ k = 10 ∨ k = 12 ∨ k = 14 ∨ k = 15) ∧ ((q = 0 ∧ jI cs cur = true ∧ Mk cs c1 cur) ∨ (q ≠ 0 ∧ c1 = cs ∧ cur1 = cur))) ∨ (k = 11 ∧ q = 0 ∧ (Gw cs → Gw c1)) ∨
  (¬ (k = 1 ∨ k = 10 ∨ k = 11 ∨ k = 12 ∨ k = 14 ∨ k = 15) ∧ q = 0 ∧ c1 = cs ∧ cur1 = cur)
end Gs
namespace Gs
def PR (k e st : Int) (cs c1 : List Cell) (cur : Int) : Prop := (Gw cs → Gw c1) ∧
 (k ≠ 11 → ((k = 1 ∨ k = 10 ∨ k = 12 ∨ k = 14 ∨ k = 15) ∧ e = 0 ∧ jI cs cur = true ∧ Mk cs c1 cur) ∨ (c1 = cs ∧ (e = 0 → st = 1 → ¬ (k = 1 ∨ k = 10 ∨ k = 12 ∨ k = 14 ∨ k = 15))))
theorem PR.keep {k e st : Int} {cs : List Cell} {cur : Int} (h : e = 0 → st = 1 → ¬ (k = 1 ∨ k = 10 ∨ k = 12 ∨ k = 14 ∨ k = 15)) : PR k e st cs cs cur := ⟨id, fun _ => .inr ⟨rfl, h⟩⟩
theorem ER.pr {k q st : Int} {cs c1 : List Cell} {cur cur1 : Int} (h : ER k q cs c1 cur cur1) : PR k q st cs c1 cur := by
 rcases h with ⟨h1, ⟨h2, h3, h4⟩ | ⟨h2, h3, _⟩⟩ | ⟨h1, _, h3⟩ | ⟨h1, h2, h3, _⟩
 ·exact ⟨fun g => g.mk h4, fun _ => .inl ⟨h1, h2, h3, h4⟩⟩
 ·exact ⟨fun g => by rw [h3]; exact g, fun _ => .inr ⟨h3, fun h => absurd h h2⟩⟩
 ·exact ⟨h3, fun hk => absurd h1 hk⟩
 ·exact ⟨fun g => by rw [h3]; exact g, fun _ => .inr ⟨h3, fun _ _ h => h1 (by omega)⟩⟩
end Gs
end
section
namespace Go.Proofs.YtjdoakbadehicaaGreatDoor
open Go Go.Sh
set_option maxRecDepth 100000
theorem X9 {x : Int} {w : World} (hx : 0 ≤ x ∧ x ≤ 255) :
    oX 126 #[Z.u x] w fun e w' => e = .returned (.bool (decide (x / 32 % 2 = 1 ∧ x / 16 % 2 = 1))) ∧ aB no w w' := by
 refine aav.calls ?_
 unfold aav
 have hF : aB no w w := Fr.refl _ _ _
 refine eF (pV hx) (fun w1 U1 h1 => ?_) (fun w1 U1 h1 => ?_)
 simp only [Z.d, Z.c] at h1
 refine aV (aV ?_)
 refine aA (Au hx) (fun w2 U2 => ?_)
 refine aU ?_
 replace hF := (hF.go0 U1).go0 U2
 exact ⟨Ak (by omega), hF⟩
 simp only [Z.d, Z.c] at h1
 refine aP (aP (aQ ?_))
 replace hF := hF.go0 U1
 exact ⟨NU (by omega), hF⟩
theorem Vs {r c i : Int} {w : World} (hi : 0 ≤ i ∧ i < Gs.aY r c) (hc : 1 ≤ c ∧ c ≤ 132) (hb : i < 5000) :
    oX 132 #[.agg #[Z.i r, Z.i c], Z.i i] w fun e w' => e = .returned (.tuple #[Z.i (i / c), Z.i (i % c), .bool true]) ∧ aB no w w' := by
 refine aaw.calls ?_
 unfold aaw
 have hF : aB no w w := Fr.refl _ _ _
 refine Z.x (#[Z.i r, Z.i c]) (fun b1 w1 e1 ah _ U1 => ?_)
 refine jQ (lss _ _ _ _) (by omega) ?_
 refine aW (aW ?_)
 refine Z.b 2 (#[Z.i r, Z.i c]) ah ?_
 refine aW ?_
 refine aA (qm (r := r) (c := c)) (fun w2 U2 => ?_)
 refine aW ?_
 refine jQ (geq _ _ _ _) (by omega) ?_
 refine aQ (aH ?_)
 refine dV (S := no) (fun w3 U3 => ?_)
 refine Z.g 1 ?_
 replace ah := U3.af (U2.af ah)
 refine Z.m ah ?_
 refine bI (fun w' hw' => (aql _ (by omega) (by omega) (by omega))) ?_
 refine Z.g 1 ?_
 refine Z.m ah ?_
 refine bI (fun w' hw' => (alk _ (by omega) (by omega) (by omega))) ?_
 refine aJ (fun w4 U4 => ?_)
 replace hF := (((hF.go0 U1).go0 U2).go0 U3).go0 U4
 exact ⟨rfl, hF⟩
theorem JY {r c cur : Int} {A : Option Addr} {n cp bp B0 : Nat} {cs : List Gs.Cell} {w : World} (ag : Z.h w bp #[Z.i r, Z.i c, .slice A n cp, Z.i cur] 91) (ae : Own B0 w 37 5 (.slice A n cp) (rows Gs.cv cs)) (hW : Gs.Pw r c n cs cur) {i : Int} :
    oX 131 #[Z.p bp, Z.i i] w fun e w' => ∃ v, e = .returned v ∧ ∃ q : Bool, v = .bool q ∧ aB no w w' := by
 refine aax.calls ?_
 unfold aax
 obtain ⟨hn, hcw, hcu, hp, hN, hb⟩ := id hW; have hrc := hW.rc
 have hF : aB no w w := Fr.refl _ _ _
 refine aA (sN ag ae hn hN hb hcw (i := i)) (fun w1 U1 => ?_)
 cases hob : Gs.mD cs i
 refine Z.e ?_
 refine Z.e ?_
 refine Z.n ((Gs.fv Gs.zf).toArray) (fun b2 w2 e2 ay _ U2 => ?_)
 replace hF := hF.go0 U1
 have fD : w.heap.size ≤ b2 := by have := hF.size; omega
 refine Z.t 3 ((Gs.fv (Gs.mX cs i)).toArray) (by (simp [Value.cells, Value.oneCell', Gs.cv, Gs.fv, Gs.ie]; done)) ay (fun w3 N3 _ U3 => ?_)
 refine aP (aP (aP (aP (aQ (aP (aP (aP (aQ (aP (aP (aP (aP (aQ ?_)))))))))))))
 replace hF := (hF.go0 U2).go1 U3 fD
 exact ⟨_, rfl, _, rfl, hF⟩
 refine Z.e ?_
 refine Z.e ?_
 refine Z.n ((Gs.fv Gs.zf).toArray) (fun b5 w5 e5 cO _ U5 => ?_)
 replace hF := hF.go0 U1
 have iM : w.heap.size ≤ b5 := by have := hF.size; omega
 refine Z.t 3 ((Gs.fv (Gs.mX cs i)).toArray) (by (simp [Value.cells, Value.oneCell', Gs.cv, Gs.fv, Gs.ie]; done)) cO (fun w6 cO _ U6 => ?_)
 refine aV ?_
 refine Z.f 0 ?_
 refine aV ?_
 refine Z.l cO ?_
 refine aV (aV ?_)
 refine az (dh _ _ _ _ _) (fun h7 => ?_) (fun h7 => ?_)
 refine aU (aV ?_)
 refine Z.f 1 ?_
 refine aV ?_
 refine Z.l cO ?_
 refine aV ?_
 refine az (gtr _ _ _ _) (fun h8 => ?_) (fun h8 => ?_)
 refine aU (aV ?_)
 refine Z.f 2 ?_
 refine aV ?_
 refine Z.l cO ?_
 refine aV ?_
 refine aA (pV (Gs.aay hcw i)) (fun w9 U9 => ?_)
 refine aV ?_
 refine ak (BV _) ?_
 refine aU ?_
 replace hF := ((hF.go0 U5).go1 U6 iM).go0 U9
 exact ⟨_, rfl, _, rfl, hF⟩
 refine aU (aP (aP (aP (aP (aQ ?_)))))
 replace hF := (hF.go0 U5).go1 U6 iM
 exact ⟨_, rfl, _, rfl, hF⟩
 refine aU (aP (aP (aP (aQ (aP (aP (aP (aP (aQ ?_)))))))))
 replace hF := (hF.go0 U5).go1 U6 iM
 exact ⟨_, rfl, _, rfl, hF⟩
theorem wK {r c cur : Int} {A : Option Addr} {n cp bp B0 : Nat} {cs : List Gs.Cell} {w : World} (ag : Z.h w bp #[Z.i r, Z.i c, .slice A n cp, Z.i cur] 91) (ae : Own B0 w 37 5 (.slice A n cp) (rows Gs.cv cs)) (hW : Gs.Pw r c n cs cur) {i j : Int} (hi : 0 ≤ i ∧ i < n) (hj : j = 1 ∨ j = -1) :
    oX 130 #[Z.p bp, Z.i i, Z.i j] w fun e w' => ∃ v, e = .returned v ∧ ∃ x : Int, v = Z.i x ∧ (0 ≤ x ∧ x < n) ∧ aB no w w' := by
 refine aaz.calls ?_
 unfold aaz
 obtain ⟨hn, hcw, hcu, hp, hN, hb⟩ := id hW; have hrc := hW.rc
 have hF : aB no w w := Fr.refl _ _ _
 refine bQ (fun g w' => (Z.h w' bp #[Z.i r, Z.i c, .slice A n cp, Z.i cur] 91) ∧ (Own B0 w' 37 5 (.slice A n cp) (rows Gs.cv cs)) ∧ (aB no w w')) (fun J1 hJ1 => ?_) (fun gJ1 jY hI => ?_)
 refine aA (fH ag ae hn) (fun w1 U1 => ?_)
 refine eG (fun g w' => ∃ (k : Nat), (g 11 = Z.i (k : Int)) ∧ (k ≤ n) ∧ (Z.h w' bp #[Z.i r, Z.i c, .slice A n cp, Z.i cur] 91) ∧ (Own B0 w' 37 5 (.slice A n cp) (rows Gs.cv cs)) ∧ (aB no w w')) (fun g w' => n - (RowKit.intOf (g 11)).toNat) ?_ (fun g2 qW hI => ?_)
 replace ae := ae.ai U1
 replace ag := U1.af ag
 replace hF := hF.go0 U1
 exact ⟨0, (by rfl), Nat.zero_le _, ag, ae, hF⟩
 replace ae := ae.ai U1
 replace ag := U1.af ag
 replace hF := hF.go0 U1
 obtain ⟨k, g11, hk, ag, ae, hF⟩ := hI
 rw [g11]
 refine az (lss _ _ _ _) (fun h2 => ?_) (fun h2 => ?_)
 refine aK ?_
 have hkj : (k : Int) * j = k ∨ (k : Int) * j = -(k : Int) := by rcases hj with rfl | rfl <;> omega
 refine ak (Gx _ (by omega)) ?_
 refine aA (lg ag ae hn hp hN hb) (fun w3 U3 => ?_)
 replace ae := ae.ai U3
 replace ag := U3.af ag
 refine aI (JY ag ae hW) (fun v4 w4 D4 => ?_)
 obtain ⟨q22, rfl, U4⟩ := D4
 refine kL (fun h5 => ?_) (fun h5 => ?_)
 replace ae := ae.ai U4
 replace ag := U4.af ag
 refine aA (lg ag ae hn hp hN hb) (fun w6 U6 => ?_)
 replace hF := ((hF.go0 U3).go0 U4).go0 U6
 exact ⟨_, rfl, _, rfl, Gs.kM _ hp, hF⟩
 refine ak (dJ _ (by omega)) ?_
 replace hF := (hF.go0 U3).go0 U4
 replace ae := ae.ai U4
 replace ag := U4.af ag
 exact ⟨⟨k + 1, (by rfl), by omega, ag, ae, hF⟩, cnt_lt (by rfl) rfl (by omega)⟩
 refine aH ?_
 refine hJ1 _ _ ?_
 exact ⟨ag, ae, hF⟩
 obtain ⟨ag, ae, hF⟩ := hI
 exact ⟨_, rfl, _, rfl, by omega, hF⟩
theorem FO {r c cur : Int} {A : Option Addr} {n cp bp B0 : Nat} {cs : List Gs.Cell} {w : World} (ag : Z.h w bp #[Z.i r, Z.i c, .slice A n cp, Z.i cur] 91) (ae : Own B0 w 37 5 (.slice A n cp) (rows Gs.cv cs)) (hW : Gs.Pw r c n cs cur)  :
    oX 84 #[Z.p bp] w fun e w' => ∃ v, e = .returned v ∧ ∃ cur, v = Z.i cur ∧ Gs.Pw r c n cs cur ∧ Z.h w' bp #[Z.i r, Z.i c, .slice A n cp, Z.i cur] 91 ∧ aB (· = bp) w w' := by
 refine F84.calls ?_
 unfold F84
 obtain ⟨hn, hcw, hcu, hp, hN, hb⟩ := id hW; have hrc := hW.rc
 have hF : aB (· = bp) w w := Fr.refl _ _ _
 refine aA (ed ag ae hn) (fun w1 U1 => ?_)
 replace ae := ae.ai U1
 replace ag := U1.af ag
 refine aI (wK ag ae hW (i := cur) (j := 1) hcu (.inl rfl)) (fun v2 w2 D2 => ?_)
 obtain ⟨x7, rfl, hx7, U2⟩ := D2
 replace ae := ae.ai U2
 replace ag := U2.af ag
 refine aI (mF ag ae hn (i := x7) (by omega)) (fun v3 w3 D3 => ?_)
 obtain ⟨rfl, N3, U3⟩ := D3
 replace ag := N3
 replace hF := (hF.go0 U1).go0 U2
 replace hF := hF.go U3 (fun i _ h => h)
 exact ⟨_, rfl, _, rfl, hW.at (by omega), ag, hF⟩
theorem Vt {r c cur : Int} {A : Option Addr} {n cp bp B0 : Nat} {cs : List Gs.Cell} {w : World} (ag : Z.h w bp #[Z.i r, Z.i c, .slice A n cp, Z.i cur] 91) (ae : Own B0 w 37 5 (.slice A n cp) (rows Gs.cv cs)) (hW : Gs.Pw r c n cs cur)  :
    oX 85 #[Z.p bp] w fun e w' => ∃ v, e = .returned v ∧ ∃ cur, v = Z.i cur ∧ Gs.Pw r c n cs cur ∧ Z.h w' bp #[Z.i r, Z.i c, .slice A n cp, Z.i cur] 91 ∧ aB (· = bp) w w' := by
 refine F85.calls ?_
 unfold F85
 obtain ⟨hn, hcw, hcu, hp, hN, hb⟩ := id hW; have hrc := hW.rc
 have hF : aB (· = bp) w w := Fr.refl _ _ _
 refine aA (ed ag ae hn) (fun w1 U1 => ?_)
 replace ae := ae.ai U1
 replace ag := U1.af ag
 refine aA (sN ag ae hn hN hb hcw) (fun w2 U2 => ?_)
 cases hob : Gs.mD cs cur
 refine Z.e ?_
 refine Z.e ?_
 refine Z.n ((Gs.fv Gs.zf).toArray) (fun b3 w3 e3 bG _ U3 => ?_)
 replace ag := U2.af ag
 have lm : bp ≠ b3 := by have := aj ag; omega
 replace ae := ae.ai U2
 have iO := ae.apart e3
 replace hF := (hF.go0 U1).go0 U2
 have jH : w.heap.size ≤ b3 := by have := hF.size; omega
 refine Z.t 3 ((Gs.fv (Gs.mX cs cur)).toArray) (by (simp [Value.cells, Value.oneCell', Gs.cv, Gs.fv, Gs.ie]; done)) bG (fun w4 N4 _ U4 => ?_)
 refine aP (aP (aP (aP (aQ (aP (aP (aP (aP (aQ (aP (aP (aP (aP (aP (aP (aQ (aH ?_)))))))))))))))))
 replace ae := (ae.ai U3).aF U4 iO
 replace ag := U4.au (U3.af ag) lm
 refine aA (lg ag ae hn hp hN hb) (fun w5 U5 => ?_)
 have := Gs.kM (cur + -2) (N := n) hp
 replace ae := ae.ai U5
 replace ag := U5.af ag
 refine aI (wK ag ae hW (i := (cur + -2) % (n : Int)) (j := -1) this (.inr rfl)) (fun v6 w6 D6 => ?_)
 obtain ⟨Vu, rfl, afB, U6⟩ := D6
 replace ae := ae.ai U6
 replace ag := U6.af ag
 refine aI (mF ag ae hn (i := Vu) (by omega)) (fun v7 w7 D7 => ?_)
 obtain ⟨rfl, N7, U7⟩ := D7
 replace ag := N7
 replace hF := (((hF.go0 U3).go1 U4 jH).go0 U5).go0 U6
 replace hF := hF.go U7 (fun i _ h => h)
 exact ⟨_, rfl, _, rfl, hW.at (by omega), ag, hF⟩
 refine Z.e ?_
 refine Z.e ?_
 refine Z.n ((Gs.fv Gs.zf).toArray) (fun b9 w9 e9 jB _ U9 => ?_)
 replace ag := U2.af ag
 have Ia : bp ≠ b9 := by have := aj ag; omega
 replace ae := ae.ai U2
 have Be := ae.apart e9
 replace hF := (hF.go0 U1).go0 U2
 have qO : w.heap.size ≤ b9 := by have := hF.size; omega
 refine Z.t 3 ((Gs.fv (Gs.mX cs cur)).toArray) (by (simp [Value.cells, Value.oneCell', Gs.cv, Gs.fv, Gs.ie]; done)) jB (fun w10 jB _ aX => ?_)
 refine aV (aV ?_)
 refine Z.f 0 ?_
 refine aV ?_
 refine Z.l jB ?_
 refine aV ?_
 replace ae := (ae.ai U9).aF aX Be
 replace ag := aX.au (U9.af ag) Ia
 refine aI (JY ag ae hW) (fun v11 nT D11 => ?_)
 obtain ⟨q19, rfl, bD⟩ := D11
 cases hq19 : q19
 refine aU (aP (aP (aP (aP (aQ (aP (aP (aP (aP (aP (aP (aQ (aH ?_)))))))))))))
 replace ae := ae.ai bD
 replace ag := bD.af ag
 refine aA (lg ag ae hn hp hN hb) (fun w12 bW => ?_)
 have := Gs.kM (cur + -2) (N := n) hp
 replace ae := ae.ai bW
 replace ag := bW.af ag
 refine aI (wK ag ae hW (i := (cur + -2) % (n : Int)) (j := -1) this (.inr rfl)) (fun v13 ve D13 => ?_)
 obtain ⟨Vu, rfl, afB, dC⟩ := D13
 replace ae := ae.ai dC
 replace ag := dC.af ag
 refine aI (mF ag ae hn (i := Vu) (by omega)) (fun v14 rF D14 => ?_)
 obtain ⟨rfl, N14, bZ⟩ := D14
 replace ag := N14
 replace hF := ((((hF.go0 U9).go1 aX qO).go0 bD).go0 bW).go0 dC
 replace hF := hF.go bZ (fun i _ h => h)
 exact ⟨_, rfl, _, rfl, hW.at (by omega), ag, hF⟩
 refine aU (aV (aV ?_))
 refine Z.f 0 ?_
 refine aV ?_
 replace jB := bD.af jB
 refine Z.l jB ?_
 refine aV ?_
 refine az (jO _ _ _ _ _) (fun h16 => ?_) (fun h16 => ?_)
 refine aU (aV (aV (aV ?_)))
 refine Z.f 0 ?_
 refine aV ?_
 refine Z.l jB ?_
 refine aV ?_
 replace ae := ae.ai bD
 replace ag := bD.af ag
 refine aA (lg ag ae hn hp hN hb) (fun vW di => ?_)
 refine aV ?_
 refine az (jO _ _ _ _ _) (fun h18 => ?_) (fun h18 => ?_)
 refine aU (aK ?_)
 refine Z.f 0 ?_
 replace jB := di.af jB
 refine Z.l jB ?_
 replace ae := ae.ai di
 replace ag := di.af ag
 refine aA (lg ag ae hn hp hN hb) (fun Ag eU => ?_)
 have := Gs.kM ((Gs.mX cs cur).s + 1) (N := n) hp
 replace ae := ae.ai eU
 replace ag := eU.af ag
 refine aI (mF ag ae hn (i := ((Gs.mX cs cur).s + 1) % (n : Int)) (by omega)) (fun v20 xM D20 => ?_)
 obtain ⟨rfl, N20, dF⟩ := D20
 replace ag := N20
 replace hF := ((((hF.go0 U9).go1 aX qO).go0 bD).go0 di).go0 eU
 replace hF := hF.go dF (fun i _ h => h)
 exact ⟨_, rfl, _, rfl, hW.at (by omega), ag, hF⟩
 refine aU (aH ?_)
 replace ae := ae.ai di
 replace ag := di.af ag
 refine aA (lg ag ae hn hp hN hb) (fun Gq eQ => ?_)
 have := Gs.kM (cur + -2) (N := n) hp
 replace ae := ae.ai eQ
 replace ag := eQ.af ag
 refine aI (wK ag ae hW (i := (cur + -2) % (n : Int)) (j := -1) this (.inr rfl)) (fun v23 Jl D23 => ?_)
 obtain ⟨Vu, rfl, afB, jD⟩ := D23
 replace ae := ae.ai jD
 replace ag := jD.af ag
 refine aI (mF ag ae hn (i := Vu) (by omega)) (fun v24 UN D24 => ?_)
 obtain ⟨rfl, N24, kD⟩ := D24
 replace ag := N24
 replace hF := (((((hF.go0 U9).go1 aX qO).go0 bD).go0 di).go0 eQ).go0 jD
 replace hF := hF.go kD (fun i _ h => h)
 exact ⟨_, rfl, _, rfl, hW.at (by omega), ag, hF⟩
 refine aU (aP (aP (aP (aP (aP (aP (aQ (aH ?_))))))))
 replace ae := ae.ai bD
 replace ag := bD.af ag
 refine aA (lg ag ae hn hp hN hb) (fun Pg jm => ?_)
 have := Gs.kM (cur + -2) (N := n) hp
 replace ae := ae.ai jm
 replace ag := jm.af ag
 refine aI (wK ag ae hW (i := (cur + -2) % (n : Int)) (j := -1) this (.inr rfl)) (fun v27 MV D27 => ?_)
 obtain ⟨Vu, rfl, afB, iw⟩ := D27
 replace ae := ae.ai iw
 replace ag := iw.af ag
 refine aI (mF ag ae hn (i := Vu) (by omega)) (fun v28 Vw D28 => ?_)
 obtain ⟨rfl, N28, jC⟩ := D28
 replace ag := N28
 replace hF := ((((hF.go0 U9).go1 aX qO).go0 bD).go0 jm).go0 iw
 replace hF := hF.go jC (fun i _ h => h)
 exact ⟨_, rfl, _, rfl, hW.at (by omega), ag, hF⟩
theorem PD {r c cur : Int} {A : Option Addr} {n cp bp B0 : Nat} {cs : List Gs.Cell} {w : World} (ag : Z.h w bp #[Z.i r, Z.i c, .slice A n cp, Z.i cur] 91) (ae : Own B0 w 37 5 (.slice A n cp) (rows Gs.cv cs)) (hW : Gs.Pw r c n cs cur)  :
    oX 86 #[Z.p bp] w fun e w' => ∃ v, e = .returned v ∧ ∃ cur, v = Z.i cur ∧ Gs.Pw r c n cs cur ∧ Z.h w' bp #[Z.i r, Z.i c, .slice A n cp, Z.i cur] 91 ∧ aB (· = bp) w w' := by
 refine F86.calls ?_
 unfold F86
 obtain ⟨hn, hcw, hcu, hp, hN, hb⟩ := id hW; have hrc := hW.rc
 have hF : aB (· = bp) w w := Fr.refl _ _ _
 refine aA (kP ag ae hn) (fun w1 U1 => ?_)
 replace ae := ae.ai U1
 replace ag := U1.af ag
 refine aA (ed ag ae hn) (fun w2 U2 => ?_)
 refine aA (Vs (r := r) (c := c) (i := cur) (by omega) (by omega) (by omega)) (fun w3 U3 => ?_)
 refine Z.e ?_
 refine Z.e ?_
 refine Z.e ?_
 have hdv : 0 ≤ cur / c ∧ cur / c ≤ 4096 := ⟨Int.ediv_nonneg hcu.1 (by omega), Int.le_trans (Int.ediv_le_self _ hcu.1) (by omega)⟩
 have hmu : 0 ≤ (cur / c + 1) * c ∧ (cur / c + 1) * c ≤ 4097 * 132 := ⟨Int.mul_nonneg (by omega) (by omega), Int.mul_le_mul (by omega) (by omega) (by omega) (by omega)⟩
 refine ak (dJ _ (by omega)) ?_
 replace ae := (ae.ai U2).ai U3
 replace ag := U3.af (U2.af ag)
 refine aA (kP ag ae hn) (fun w4 U4 => ?_)
 refine ak (qo (off := 1) (by kernel_rfl) (by rfl)) ?_
 refine ak (Gx _ (by omega)) ?_
 replace ae := ae.ai U4
 replace ag := U4.af ag
 refine aA (lg ag ae hn hp hN hb) (fun w5 U5 => ?_)
 refine bQ (fun g w' => (Z.h w' bp #[Z.i r, Z.i c, .slice A n cp, Z.i cur] 91) ∧ (Own B0 w' 37 5 (.slice A n cp) (rows Gs.cv cs)) ∧ (aB (· = bp) w w')) (fun J1 hJ1 => ?_) (fun gJ1 jY hI => ?_)
 replace ae := ae.ai U5
 replace ag := U5.af ag
 refine aA (fH ag ae hn) (fun w6 U6 => ?_)
 refine eG (fun g w' => ∃ (k : Nat), (g 28 = Z.i (k : Int)) ∧ (k ≤ n) ∧ (Z.h w' bp #[Z.i r, Z.i c, .slice A n cp, Z.i cur] 91) ∧ (Own B0 w' 37 5 (.slice A n cp) (rows Gs.cv cs)) ∧ (aB (· = bp) w w')) (fun g w' => n - (RowKit.intOf (g 28)).toNat) ?_ (fun g2 qW hI => ?_)
 replace hF := (((((hF.go0 U1).go0 U2).go0 U3).go0 U4).go0 U5).go0 U6
 replace ae := ae.ai U6
 replace ag := U6.af ag
 exact ⟨0, (by rfl), Nat.zero_le _, ag, ae, hF⟩
 replace hF := (((((hF.go0 U1).go0 U2).go0 U3).go0 U4).go0 U5).go0 U6
 replace ae := ae.ai U6
 replace ag := U6.af ag
 obtain ⟨k, g28, hk, ag, ae, hF⟩ := hI
 rw [g28]
 refine az (lss _ _ _ _) (fun h7 => ?_) (fun h7 => ?_)
 refine aK ?_
 refine aA (lg ag ae hn hp hN hb) (fun w8 U8 => ?_)
 replace ae := ae.ai U8
 replace ag := U8.af ag
 refine eF (oZ ag ae hn hN hb hcw) (fun w9 U9 h9 => ?_) (fun w9 U9 h9 => ?_)
 refine aK ?_
 have hmo := Gs.kM ((0 + (cur / c + 1) * c) % (n : Int) + (k : Int)) (N := n) hp
 replace ae := ae.ai U9
 replace ag := U9.af ag
 refine aI (mF ag ae hn (i := ((0 + (cur / c + 1) * c) % (n : Int) + (k : Int)) % (n : Int)) (by omega)) (fun v10 w10 D10 => ?_)
 obtain ⟨rfl, N10, aX⟩ := D10
 replace ag := N10
 replace hF := (hF.go0 U8).go0 U9
 replace hF := hF.go aX (fun i _ h => h)
 exact ⟨_, rfl, _, rfl, hW.at (by omega), ag, hF⟩
 refine aH ?_
 refine ak (dJ _ (by omega)) ?_
 replace hF := (hF.go0 U8).go0 U9
 replace ae := ae.ai U9
 replace ag := U9.af ag
 exact ⟨⟨k + 1, (by rfl), by omega, ag, ae, hF⟩, cnt_lt (by rfl) rfl (by omega)⟩
 refine aH ?_
 refine hJ1 _ _ ?_
 exact ⟨ag, ae, hF⟩
 replace hF := ((((hF.go0 U1).go0 U2).go0 U3).go0 U4).go0 U5
 replace ae := ae.ai U5
 replace ag := U5.af ag
 obtain ⟨ag, ae, hF⟩ := hI
 refine aI (mF ag ae hn (i := 0) (by omega)) (fun v12 w12 D12 => ?_)
 obtain ⟨rfl, N12, bW⟩ := D12
 replace ag := N12
 replace hF := hF.go bW (fun i _ h => h)
 exact ⟨_, rfl, _, rfl, hW.at (by omega), ag, hF⟩
theorem Ud {r c cur : Int} {A : Option Addr} {n cp bp B0 : Nat} {cs : List Gs.Cell} {w : World} (ag : Z.h w bp #[Z.i r, Z.i c, .slice A n cp, Z.i cur] 91) (ae : Own B0 w 37 5 (.slice A n cp) (rows Gs.cv cs)) (hW : Gs.Pw r c n cs cur)  :
    oX 87 #[Z.p bp] w fun e w' => ∃ v, e = .returned v ∧ ∃ cur, v = Z.i cur ∧ Gs.Pw r c n cs cur ∧ Z.h w' bp #[Z.i r, Z.i c, .slice A n cp, Z.i cur] 91 ∧ aB (· = bp) w w' := by
 refine F87.calls ?_
 unfold F87
 obtain ⟨hn, hcw, hcu, hp, hN, hb⟩ := id hW; have hrc := hW.rc
 have hhb := Gs.LJ (cs := cs) (by omega)
 have hF : aB (· = bp) w w := Fr.refl _ _ _
 refine aA (JZ ag ae hn hN hb hcw) (fun w1 U1 => ?_)
 replace ae := ae.ai U1
 replace ag := U1.af ag
 refine aI (mF ag ae hn (i := Gs.um cs) (by omega)) (fun v2 w2 D2 => ?_)
 obtain ⟨rfl, N2, U2⟩ := D2
 replace ag := N2
 replace hF := hF.go0 U1
 replace hF := hF.go U2 (fun i _ h => h)
 exact ⟨_, rfl, _, rfl, hW.at (by omega), ag, hF⟩
theorem zt {r c cur : Int} {A : Option Addr} {n cp bp B0 : Nat} {cs : List Gs.Cell} {w : World} (ag : Z.h w bp #[Z.i r, Z.i c, .slice A n cp, Z.i cur] 91) (ae : Own B0 w 37 5 (.slice A n cp) (rows Gs.cv cs)) (hW : Gs.Pw r c n cs cur) {i j : Int} (hi : -1 ≤ i ∧ i ≤ 1) (hj : -1 ≤ j ∧ j ≤ 1) :
    oX 88 #[Z.p bp, Z.i i, Z.i j] w fun e w' => ∃ v, e = .returned v ∧ ∃ cur, v = Z.i cur ∧ Gs.Pw r c n cs cur ∧ Z.h w' bp #[Z.i r, Z.i c, .slice A n cp, Z.i cur] 91 ∧ aB (· = bp) w w' := by
 refine F88.calls ?_
 unfold F88
 obtain ⟨hn, hcw, hcu, hp, hN, hb⟩ := id hW; have hrc := hW.rc
 have hF : aB (· = bp) w w := Fr.refl _ _ _
 refine aA (kP ag ae hn) (fun w1 U1 => ?_)
 refine Z.n (#[Z.i 0, Z.i 0]) (fun b2 w2 e2 ay _ U2 => ?_)
 replace ag := U1.af ag
 have fF : bp ≠ b2 := by have := aj ag; omega
 replace ae := ae.ai U1
 have dN := ae.apart e2
 replace hF := hF.go0 U1
 have fD : w.heap.size ≤ b2 := by have := hF.size; omega
 refine iD (n := 2) (by kernel_rfl) (by rfl) (by (simp [Value.cells, Value.oneCell', Gs.cv, Gs.fv, Gs.ie]; done)) ay (Nat.le_of_ble_eq_true rfl) (by (simp; rfl)) (fun w3 ay _ U3 => ?_)
 refine dV (S := no) (fun w4 U4 => ?_)
 replace ae := ((ae.ai U2).aF U3 dN).ai U4
 replace ag := U4.af (U3.au (U2.af ag) fF)
 refine gQ (fun w' hw' => by have ag := hw'.af ag; have ae := ae.ai hw'; exact ed ag ae hn) ?_
 refine Z.g 0 ?_
 replace ay := U4.af ay
 refine Z.m ay ?_
 refine bI (fun w' hw' => (Vx _ (by omega) (by omega))) ?_
 refine Z.g 1 ?_
 refine Z.m ay ?_
 have hmr := Gs.ajf i hrc.1 hi
 have hmc := Gs.alm hmr c
 refine bI (fun w' hw' => (Gx _ (by omega))) ?_
 refine gQ (fun w' hw' => by have ag := hw'.af ag; have ae := ae.ai hw'; exact lg ag ae hn hp hN hb) ?_
 refine gQ (fun w' hw' => by have ag := hw'.af ag; have ae := ae.ai hw'; exact lg ag ae hn hp hN hb) ?_
 refine aJ (fun w8 U8 => ?_)
 have := Gs.kM (((cur + i.tmod r * c) % (n : Int)) + j) (N := n) hp
 replace ae := ae.ai U8
 replace ag := U8.af ag
 refine aI (mF ag ae hn (by omega)) (fun v9 w9 D9 => ?_)
 obtain ⟨rfl, N9, U9⟩ := D9
 replace ag := N9
 replace hF := (((hF.go0 U2).go1 U3 fD).go0 U4).go0 U8
 replace hF := hF.go U9 (fun i _ h => h)
 refine aJ (fun w10 aX => ?_)
 replace ag := aX.af ag
 replace hF := hF.go0 aX
 exact ⟨_, rfl, _, rfl, hW.at (by omega), ag, hF⟩
theorem aaA {r c cur : Int} {A : Option Addr} {n cp bp B0 : Nat} {cs : List Gs.Cell} {w : World} (ag : Z.h w bp #[Z.i r, Z.i c, .slice A n cp, Z.i cur] 91) (ae : Own B0 w 37 5 (.slice A n cp) (rows Gs.cv cs)) (hW : Gs.Pw r c n cs cur)  :
    oX 74 #[Z.p bp] w fun e w' => ∃ v, e = .returned v ∧ ∃ cur, v = Z.i cur ∧ Gs.Pw r c n cs cur ∧ Z.h w' bp #[Z.i r, Z.i c, .slice A n cp, Z.i cur] 91 ∧ aB (· = bp) w w' := by
 refine YN.calls ?_
 unfold YN
 obtain ⟨hn, hcw, hcu, hp, hN, hb⟩ := id hW; have hrc := hW.rc
 have hnx := Gs.kM (cur + 1) (N := n) hp
 have hF : aB (· = bp) w w := Fr.refl _ _ _
 refine aA (ed ag ae hn) (fun w1 U1 => ?_)
 replace ae := ae.ai U1
 replace ag := U1.af ag
 refine aA (lg ag ae hn hp hN hb) (fun w2 U2 => ?_)
 replace ae := ae.ai U2
 replace ag := U2.af ag
 refine aI (mF ag ae hn (i := (cur + 1) % (n : Int)) (by omega)) (fun v3 w3 D3 => ?_)
 obtain ⟨rfl, N3, U3⟩ := D3
 replace ae := ae.aF U3 (Own.aT ae (by assumption) (by decide))
 replace ag := N3
 replace hF := (hF.go0 U1).go0 U2
 replace hF := hF.go U3 (fun i _ h => h)
 replace hW := hW.at hnx
 obtain ⟨xc, hxe⟩ : ∃ x, x = Gs.bH cs ((cur + 1) % (n : Int)) := ⟨_, rfl⟩
 have hxw := Gs.sO hcw ((cur + 1) % (n : Int))
 refine aA (gy ag ae hn) (fun w4 U4 => ?_)
 rw [← hxe]
 refine Z.n ((Gs.cv Gs.zc).toArray) (fun b5 w5 e5 cO _ U5 => ?_)
 replace ag := U4.af ag
 have jT : bp ≠ b5 := by have := aj ag; omega
 replace ae := ae.ai U4
 have jl := ae.apart e5
 replace hF := hF.go0 U4
 have iM : w.heap.size ≤ b5 := by have := hF.size; omega
 refine Z.t 5 ((Gs.cv xc).toArray) (by (simp [Value.cells, Value.oneCell', Gs.cv, Gs.fv, Gs.ie]; done)) cO (fun w6 cO _ U6 => ?_)
 refine Z.f 2 ?_
 refine oJ (kH (by kernel_rfl) cO (by rfl)) (fun h7 => ?_) (fun h7 => ?_)
 refine aV ?_
 refine Z.f 0 ?_
 refine aV ?_
 refine Z.l cO ?_
 refine aV ?_
 refine eF (X9 (by rw [hxe]; exact hxw)) (fun w8 U8 h8 => ?_) (fun w8 U8 h8 => ?_)
 simp only [Z.d, Z.c] at h8
 refine aU (aK ?_)
 replace ae := ((ae.ai U5).aF U6 jl).ai U8
 replace ag := U8.af (U6.au (U5.af ag) jT)
 refine aI (FO ag ae hW) (fun v9 w9 D9 => ?_)
 obtain ⟨cur, rfl, hW, N9, U9⟩ := D9
 obtain ⟨hn, hcw, hcu, hp, hN, hb⟩ := id hW
 replace ag := N9
 replace hF := ((hF.go0 U5).go1 U6 iM).go0 U8
 replace hF := hF.go U9 (fun i _ h => h)
 exact ⟨_, rfl, _, rfl, hW.at (by omega), ag, hF⟩
 simp only [Z.d, Z.c] at h8
 refine aU (aH ?_)
 refine Z.f 2 ?_
 replace cO := U8.af cO
 refine oJ (kH (by kernel_rfl) cO (by rfl)) (fun h11 => ?_) (fun h11 => ?_)
 refine aK ?_
 replace ae := ((ae.ai U5).aF U6 jl).ai U8
 replace ag := U8.af (U6.au (U5.af ag) jT)
 refine aA (lg ag ae hn hp hN hb) (fun w12 bW => ?_)
 have := Gs.kM ((cur + 1) % (n : Int) + 1) (N := n) hp
 replace ae := ae.ai bW
 replace ag := bW.af ag
 refine aI (mF ag ae hn (by omega)) (fun v13 ve D13 => ?_)
 obtain ⟨rfl, N13, dC⟩ := D13
 replace ag := N13
 replace hF := (((hF.go0 U5).go1 U6 iM).go0 U8).go0 bW
 replace hF := hF.go dC (fun i _ h => h)
 exact ⟨_, rfl, _, rfl, hW.at (by omega), ag, hF⟩
 refine aH ?_
 replace ag := U8.af (U6.au (U5.af ag) jT)
 replace hF := ((hF.go0 U5).go1 U6 iM).go0 U8
 exact ⟨_, rfl, _, rfl, hW.at (by omega), ag, hF⟩
 refine aP (aP (aP (aQ (aH ?_))))
 refine Z.f 2 ?_
 refine oJ (kH (by kernel_rfl) cO (by rfl)) (fun h16 => ?_) (fun h16 => ?_)
 refine aK ?_
 replace ae := (ae.ai U5).aF U6 jl
 replace ag := U6.au (U5.af ag) jT
 refine aA (lg ag ae hn hp hN hb) (fun vW di => ?_)
 have := Gs.kM ((cur + 1) % (n : Int) + 1) (N := n) hp
 replace ae := ae.ai di
 replace ag := di.af ag
 refine aI (mF ag ae hn (by omega)) (fun v18 xY D18 => ?_)
 obtain ⟨rfl, N18, dR⟩ := D18
 replace ag := N18
 replace hF := ((hF.go0 U5).go1 U6 iM).go0 di
 replace hF := hF.go dR (fun i _ h => h)
 exact ⟨_, rfl, _, rfl, hW.at (by omega), ag, hF⟩
 refine aH ?_
 replace ag := U6.au (U5.af ag) jT
 replace hF := (hF.go0 U5).go1 U6 iM
 exact ⟨_, rfl, _, rfl, hW.at (by omega), ag, hF⟩
theorem PE {x : Int} {w : World} (hx : 0 ≤ x ∧ x ≤ 255) :
    oX 119 #[Z.u x] w fun e w' => e = .returned (.bool (decide ((240 ≤ x ∧ x ≤ 249) ∨ x = 75 ∨ x = 96 ∨ x = 28))) ∧ aB no w w' := by
 refine aaB.calls ?_
 unfold aaB
 have hF : aB no w w := Fr.refl _ _ _
 refine eF (Vo (b := x)) (fun w1 U1 h1 => ?_) (fun w1 U1 h1 => ?_)
 simp only [Z.d, Z.c] at h1
 refine bg (bg (aU (bg (bg (aU (bg (bg (aU ?_))))))))
 replace hF := hF.go0 U1
 exact ⟨NM (by omega), hF⟩
 simp only [Z.d, Z.c] at h1
 refine aW (aW ?_)
 refine az (dh _ _ _ _ _) (fun h3 => ?_) (fun h3 => ?_)
 refine aQ (bg (bg (aU (bg (bg (aU ?_))))))
 replace hF := hF.go0 U1
 exact ⟨NM (by omega), hF⟩
 refine aQ (aW (aW ?_))
 refine az (dh _ _ _ _ _) (fun h5 => ?_) (fun h5 => ?_)
 refine aQ (bg (bg (aU ?_)))
 replace hF := hF.go0 U1
 exact ⟨NM (by omega), hF⟩
 refine aQ (aW (aW ?_))
 refine ak (dh _ _ _ _ _) ?_
 refine aQ ?_
 replace hF := hF.go0 U1
 exact ⟨Ak (by omega), hF⟩
theorem J7 {r c cur : Int} {A : Option Addr} {n cp bp B0 : Nat} {cs : List Gs.Cell} {w : World} (ag : Z.h w bp #[Z.i r, Z.i c, .slice A n cp, Z.i cur] 91) (ae : Own B0 w 37 5 (.slice A n cp) (rows Gs.cv cs)) (hW : Gs.Pw r c n cs cur) {i : Int} (hi : 0 ≤ i ∧ i < n) :
    oX 120 #[Z.p bp, Z.i i] w fun e w' => ∃ v, e = .returned v ∧ ∃ (l : List Int) (A' : Option Addr) (c' : Nat), v = .slice A' l.length c' ∧ Rd w' A' (vals .i64 l) ∧ wC A' (vals .i64 l) w.heap.size ∧ Gs.vY cs l ∧ l.length ≤ n ∧ (Gs.jI cs i = true → l ≠ []) ∧ aB no w w' := by
 refine aaC.calls ?_
 unfold aaC
 obtain ⟨hn, hcw, hcu, hp, hN, hb⟩ := id hW; have hrc := hW.rc
 obtain ⟨i0, rfl⟩ := Int.eq_ofNat_of_zero_le hi.1
 have hiC : 0 ≤ (i0 : Int) ∧ (i0 : Int) < cs.length := by omega
 have xC := aj ag
 have lJ := Own.lt ae
 have hF : aB no w w := Fr.refl _ _ _
 refine Z.x _ (fun b1 w1 e1 ah _ U1 => ?_)
 have jJ : bp ≠ b1 := by have := aj ag; omega
 have gZ := ae.apart e1
 have bY : w.heap.size ≤ b1 := by have := hF.size; omega
 refine Z.n (#[.slice none 0 0]) (fun b2 w2 e2 ay _ U2 => ?_)
 replace ag := U1.af ag
 have fF : bp ≠ b2 := by have := aj ag; omega
 replace ae := ae.ai U1
 have dN := ae.apart e2
 have mf : b1 ≠ b2 := by have := aj ah; omega
 replace hF := hF.go0 U1
 have fD : w.heap.size ≤ b2 := by have := hF.size; omega
 replace ah := U2.af ah
 refine Z.l ah ?_
 replace ae := ae.ai U2
 replace ag := U2.af ag
 refine aA (sN ag ae hn hN hb hcw (i := (i0 : Int))) (fun w3 U3 => ?_)
 refine Z.e ?_
 refine Z.e ?_
 refine Z.n ((Gs.fv Gs.zf).toArray) (fun b4 w4 e4 eP _ U4 => ?_)
 replace ag := U3.af ag
 have qF : bp ≠ b4 := by have := aj ag; omega
 replace ae := ae.ai U3
 have mW := ae.apart e4
 replace ah := U3.af ah
 have pW : b1 ≠ b4 := by have := aj ah; omega
 replace ay := U3.af ay
 have Ib : b2 ≠ b4 := by have := aj ay; omega
 replace hF := (hF.go0 U2).go0 U3
 have nO : w.heap.size ≤ b4 := by have := hF.size; omega
 refine Z.t 3 ((Gs.fv (Gs.mX cs (i0 : Int))).toArray) (by (simp [Value.cells, Value.oneCell', Gs.cv, Gs.fv, Gs.ie]; done)) eP (fun w5 eP _ U5 => ?_)
 refine bQ (fun g w' => (Gs.mD cs (i0 : Int) = true) ∧ (Z.h w' b1 #[Z.i (i0 : Int)] 3) ∧ (Z.h w' b2 #[.slice none 0 0] 176) ∧ (Z.h w' b4 ((Gs.fv (Gs.mX cs (i0 : Int))).toArray) 173) ∧ (Z.h w' bp #[Z.i r, Z.i c, .slice A n cp, Z.i cur] 91) ∧ (Own B0 w' 37 5 (.slice A n cp) (rows Gs.cv cs)) ∧ (aB no w w')) (fun J1 hJ1 => ?_) (fun gJ1 jY hI => ?_)
 refine ak (BV _) ?_
 refine kL (fun h6 => ?_) (fun h6 => ?_)
 refine bQ (fun g w' => ∃ (v5 : Value) (l : List Int), (Z.h w' b2 #[v5] 176) ∧ (Own w.heap.size w' 3 1 v5 (vals .i64 l)) ∧ (Gs.vY cs l) ∧ (l.length + i0 = n) ∧ (aB no w w')) (fun J2 hJ2 => ?_) (fun gJ2 Vb hI => ?_)
 replace ae := (ae.ai U4).aF U5 mW
 replace ag := U5.au (U4.af ag) qF
 replace ah := U5.au (U4.af ah) pW
 replace ay := U5.au (U4.af ay) Ib
 replace hF := (hF.go0 U4).go1 U5 nO
 have hob : Gs.mD cs (i0 : Int) = false := by cases hq : Gs.mD cs (i0 : Int) <;> simp_all
 refine Z.l ah ?_
 refine eG (fun g w' => ∃ (k : Nat) (v5 : Value) (l : List Int), (g 8 = Z.i (k : Int)) ∧ (i0 ≤ k ∧ k ≤ n) ∧ (Z.h w' b2 #[v5] 176) ∧ (Own w.heap.size w' 3 1 v5 (vals .i64 l)) ∧ (Gs.vY cs l) ∧ (l.length + i0 = k) ∧ (Z.h w' bp #[Z.i r, Z.i c, .slice A n cp, Z.i cur] 91) ∧ (Own B0 w' 37 5 (.slice A n cp) (rows Gs.cv cs)) ∧ (aB no w w')) (fun g w' => n - (RowKit.intOf (g 8)).toNat) ?_ (fun g3 wl3 hI => ?_)
 exact ⟨i0, _, [], (by rfl), (by omega), ay, (Own.nil _ _ _ _), (Gs.vY.nil _), (by simp), ag, ae, hF⟩
 obtain ⟨k, v5, l, g8, hk, ay, dS, hrk, hll, ag, ae, hF⟩ := hI
 rw [g8]
 refine aA (fH ag ae hn) (fun w7 U7 => ?_)
 refine az (lss _ _ _ _) (fun h8 => ?_) (fun h8 => ?_)
 refine aK ?_
 replace ay := U7.af ay
 refine Z.l ay ?_
 refine dG (e := 3) (m := 1) (z := #[Z.i 0]) (by kernel_rfl) (by kernel_rfl) (by rfl) (by decide) (by (simp [eH, splice, fO, Value.cells, Gs.cv, Gs.fv, Gs.ie]; rfl)) (fun b9 w9 e9 jB _ U9 => ?_)
 have DN : b2 ≠ b9 := by have := aj ay; omega
 replace dS := dS.ai U7
 have aaD := dS.apart e9
 replace ag := U7.af ag
 have Ia : bp ≠ b9 := by have := aj ag; omega
 replace ae := ae.ai U7
 have Be := ae.apart e9
 replace hF := hF.go0 U7
 have qO : w.heap.size ≤ b9 := by have := hF.size; omega
 replace dS := dS.ai U9
 replace hF := hF.go0 U9
 refine jG (e := 3) (size := 1) (bytes := 8) (by kernel_rfl) dS (Rd.mP jB) rfl (by (simp [Value.oneCell']; done)) (by simp only [vals_length, List.length_take, List.length_cons, List.length_nil, List.length_append, List.length_map, List.length_range]; omega) (by have := hF.size; omega) (fun v10 w10 N10 hA10 aX => ?_)
 have jr := dS
 have nc10_b9 : ∀ k, aG v10 k → k ≠ b9 := fun k hk e => Or.elim (hA10 k hk) (fun h => aaD k h e) (fun h => by have := aj jB; omega)
 replace ay := U9.af ay
 replace ay := aX.get ay (fun h => Own.aT jr ay (by decide) _ h rfl)
 replace dS := N10
 replace ag := U9.af ag
 replace ag := aX.get ag (fun h => by (have := Own.ge jr h; omega))
 replace ae := ae.ai U9
 replace ae := ae.dO aX (fun k hk hs => by have := lJ k hk; have := (Own.ge jr hs).1; omega)
 replace hF := hF.go aX (fun i h hs => by (have := (Own.ge jr hs).1; omega))
 clear jr
 refine nH (by kernel_rfl) (Own.FI dS).1 (Own.FI dS).2 ay (Nat.le_of_ble_eq_true rfl) (by (simp [uN]; rfl)) (fun nT ay _ bD => ?_)
 replace dS := dS.aF bD (Own.aT dS (by assumption) (by decide))
 refine ak (dJ _ (by omega)) ?_
 replace ae := ae.aF bD dN
 replace ag := bD.au ag fF
 replace hF := hF.go1 bD fD
 exact ⟨⟨k + 1, _, _, (by rfl), (by omega), ay, (NW dS), (hrk.snoc (Gs.Vy hiC hob (by omega))), (by simp only [List.length_append, List.length_cons, List.length_nil]; omega), ag, ae, hF⟩, cnt_lt (by rfl) rfl (by omega)⟩
 refine aH ?_
 refine hJ2 _ _ ?_
 replace dS := dS.ai U7
 replace ay := U7.af ay
 replace hF := hF.go0 U7
 exact ⟨_, _, ay, dS, hrk, (by omega), hF⟩
 replace ay := U5.au (U4.af ay) Ib
 replace hF := (hF.go0 U4).go1 U5 nO
 obtain ⟨v5, l, ay, dS, hrk, hll, hF⟩ := hI
 refine Z.l ay ?_
 show mG [] _ _
 obtain ⟨A5, c5, rfl, Vz⟩ := dS.bK
 exact ⟨_, rfl, l, _, _, rfl, Vz, .inr fun k hk => (dS.MQ k hk).1, hrk, by omega, by (intro _ h; rw [h] at hll; simp only [List.length_nil] at hll; omega), hF⟩
 refine hJ1 _ _ ?_
 replace ae := (ae.ai U4).aF U5 mW
 replace ag := U5.au (U4.af ag) qF
 replace ah := U5.au (U4.af ah) pW
 replace ay := U5.au (U4.af ay) Ib
 replace hF := (hF.go0 U4).go1 U5 nO
 exact ⟨(by cases hq : Gs.mD cs (i0 : Int) <;> simp_all), ah, ay, eP, ag, ae, hF⟩
 replace ae := (ae.ai U4).aF U5 mW
 replace ag := U5.au (U4.af ag) qF
 replace ah := U5.au (U4.af ah) pW
 replace ay := U5.au (U4.af ay) Ib
 replace hF := (hF.go0 U4).go1 U5 nO
 obtain ⟨hob, ah, ay, eP, ag, ae, hF⟩ := hI
 refine bQ (fun g w' => ∃ (D5 : Nat) (v5 : Value) (l : List Int), (g 1000000 = mkV D5 undef) ∧ (w.heap.size ≤ D5) ∧ (w'.heap[D5]? = some (.deferred (some []))) ∧ (Z.h w' b2 #[v5] 176) ∧ (Own w.heap.size w' 3 1 v5 (vals .i64 l)) ∧ (Gs.vY cs l) ∧ (l.length ≤ n) ∧ (Gs.jI cs (i0 : Int) = true → l ≠ []) ∧ (aB no w w')) (fun J4 hJ4 => ?_) (fun gJ4 wJ4 hI => ?_)
 refine Z.b 3 ((Gs.fv (Gs.mX cs (i0 : Int))).toArray) eP ?_
 refine aI (Aw ag ae hn (f := Gs.mX cs (i0 : Int))) (fun v14 rF D14 => ?_)
 obtain ⟨b1_32, b2_32, rfl, g1_32, g2_32, fV, fZ, bZ⟩ := D14
 have anq : b1 ≠ b1_32 := by have := aj ah; omega
 have MZ : b2 ≠ b1_32 := by have := aj ay; omega
 have anr : b4 ≠ b1_32 := by have := aj eP; omega
 have ant : bp ≠ b1_32 := by have := aj ag; omega
 have ajg : ∀ k, aG _ k → k ≠ b1_32 := fun k hk => by have := (Own.ge ae hk).2; omega
 have aqD : w.heap.size ≤ b1_32 := by have := hF.size; omega
 have anu : b1 ≠ b2_32 := by have := aj ah; omega
 have Na : b2 ≠ b2_32 := by have := aj ay; omega
 have anv : b4 ≠ b2_32 := by have := aj eP; omega
 have anw : bp ≠ b2_32 := by have := aj ag; omega
 have ajh : ∀ k, aG _ k → k ≠ b2_32 := fun k hk => by have := (Own.ge ae hk).2; omega
 have aqE : w.heap.size ≤ b2_32 := by have := hF.size; omega
 refine wL (by kernel_rfl) (fun ut l5 D5 Rdy5 Bsy5 Dn5 y5 eD el gm iF lp1 lp2 lp3 sz15 bT hY => ?_)
 have lp2_5 := lp2
 replace ah := bZ.af ah
 have afC : b1 ≠ D5 := by have := aj ah; omega
 have tY : b1 ≠ l5 := by have := aj ah; omega
 replace ay := bZ.af ay
 have VA : b2 ≠ D5 := by have := aj ay; omega
 have wM : b2 ≠ l5 := by have := aj ay; omega
 replace eP := bZ.af eP
 have aqF : b4 ≠ D5 := by have := aj eP; omega
 have aqG : b4 ≠ l5 := by have := aj eP; omega
 replace ag := bZ.af ag
 have afD : bp ≠ D5 := by have := aj ag; omega
 have qH : bp ≠ l5 := by have := aj ag; omega
 replace ae := ae.ai bZ
 have Nb : ∀ k, aG _ k → k ≠ D5 := fun k hk => by have := (Own.ge ae hk).2; omega
 have lX : ∀ k, aG _ k → k ≠ l5 := fun k hk => by have := (Own.ge ae hk).2; omega
 have anx : b1_32 ≠ D5 := by have := aj fV; omega
 have vJ : b1_32 ≠ l5 := by have := aj fV; omega
 have anz : b2_32 ≠ D5 := by have := aj fZ; omega
 have vK : b2_32 ≠ l5 := by have := aj fZ; omega
 replace hF := hF.go0 bZ
 have Ic : w.heap.size ≤ D5 := by have := hF.size; omega
 have xE : w.heap.size ≤ l5 := by have := hF.size; omega
 have pX : D5 ≠ l5 := by omega
 replace ae := ae.ai bT
 replace ah := bT.af ah
 replace ay := bT.af ay
 replace ag := bT.af ag
 replace fV := bT.af fV
 replace fZ := bT.af fZ
 replace hF := hF.go0 bT
 refine Calls.mono (DR (b1 := b1_32) (b2 := b2_32) (J := (fun (k : Nat) (w' : World) => ∃ (v5 : Value) (l : List Int), (Z.h w' b2 #[v5] 176) ∧ (Own w.heap.size w' 3 1 v5 (vals .i64 l)) ∧ (Gs.vY cs l) ∧ (l.length ≤ k) ∧ (∀ j, j < k → (Gs.iP n (Gs.mX cs (i0 : Int)))[j]? = some (i0 : Int) → l ≠ []) ∧ (¬ aG v5 b1) ∧ (Z.h w' b1 #[Z.i (i0 : Int)] 3) ∧ (Z.h w' bp #[Z.i r, Z.i c, .slice A n cp, Z.i cur] 91) ∧ (Own B0 w' 37 5 (.slice A n cp) (rows Gs.cv cs)) ∧ (Z.h w' b1_32 #[Z.p bp] 33) ∧ (Z.h w' b2_32 ((Gs.fv (Gs.mX cs (i0 : Int))).toArray) 173) ∧ (w'.heap[D5]? = some (.deferred (some []))) ∧ (w'.heap[l5]? = some Rdy5) ∧ (aB no w w'))) (X := (fun _ => False)) (fun _ w' hJ => by obtain ⟨v5, l, ay, dS, hrk, hll, hnz, hs3, ah, ag, ae, fV, fZ, gm, iF, hF⟩ := hJ; exact ⟨fV, fZ, ag, ae⟩) (fun _ w' w'' hJ U' => by obtain ⟨v5, l, ay, dS, hrk, hll, hnz, hs3, ah, ag, ae, fV, fZ, gm, iF, hF⟩ := hJ; exact ⟨v5, l, U'.af ay, dS.ai U', hrk, hll, hnz, hs3, U'.af ah, U'.af ag, ae.ai U', U'.af fV, U'.af fZ, U'.af gm, U'.af iF, hF.go0 U'⟩) (fun _ _ h _ => h.elim) (fun _ h => h.elim) hn hN hb ?_ ?_) ?_
 intro k wl5 xk hx hI
 obtain ⟨v5, l, ay, dS, hrk, hll, hnz, hs3, ah, ag, ae, fV, fZ, gm, iF, hF⟩ := hI
 obtain ⟨A5, c5, rfl, _⟩ := dS.bK
 have hk := (List.getElem?_eq_some_iff.1 hx).1
 have hxb := Gs.Ie hx
 have hple := Gs.EJ n (Gs.mX cs (i0 : Int))
 refine hY [Z.i xk] _ _ rfl iF ?_
 simp only [List.getD_cons_zero, List.getD_cons_succ]
 refine zu iF (fun w16 iF _ bU => ?_)
 replace dS := dS.aF bU (Own.jd dS (by assumption) (by assumption))
 replace ah := bU.au ah tY
 refine Z.l ah ?_
 refine az (dh _ _ _ _ _) (fun h17 => ?_) (fun h17 => ?_)
 refine bg (bg (bg (aU (aK ?_))))
 replace ay := bU.au ay wM
 refine Z.l ay ?_
 refine dG (e := 3) (m := 1) (z := #[Z.i 0]) (by kernel_rfl) (by kernel_rfl) (by rfl) (by decide) (by (simp [eH, splice, fO, Value.cells, Gs.cv, Gs.fv, Gs.ie]; rfl)) (fun b18 xY e18 aaE _ dR => ?_)
 have apv : b2 ≠ b18 := by have := aj ay; omega
 have Ya := dS.apart e18
 have adi : b1 ≠ b18 := by have := aj ah; omega
 replace ag := bU.au ag qH
 have apw : bp ≠ b18 := by have := aj ag; omega
 replace ae := ae.aF bU lX
 have alo := ae.apart e18
 replace fV := bU.au fV vJ
 have alp : b1_32 ≠ b18 := by have := aj fV; omega
 replace fZ := bU.au fZ vK
 have alq : b2_32 ≠ b18 := by have := aj fZ; omega
 replace gm := bU.au gm pX
 have apx : D5 ≠ b18 := by have := aj gm; omega
 have apy : l5 ≠ b18 := by have := aj iF; omega
 replace hF := hF.go1 bU xE
 have alr : w.heap.size ≤ b18 := by have := hF.size; omega
 replace dS := dS.ai dR
 replace hF := hF.go0 dR
 refine jG (e := 3) (size := 1) (bytes := 8) (by kernel_rfl) dS (Rd.mP aaE) rfl (by (simp [Value.oneCell']; done)) (by simp only [vals_length, List.length_take, List.length_cons, List.length_nil, List.length_append, List.length_map, List.length_range]; omega) (by have := hF.size; omega) (fun v19 Ag N19 hA19 eU => ?_)
 have jr := dS
 replace ah := dR.af ah
 have apz := BG (S' := xY) hs3 ah hA19
 have aqH : ∀ k, aG v19 k → k ≠ b18 := fun k hk e => Or.elim (hA19 k hk) (fun h => Ya k h e) (fun h => by have := aj aaE; omega)
 replace ay := dR.af ay
 replace ay := eU.get ay (fun h => Own.aT jr ay (by decide) _ h rfl)
 replace dS := N19
 replace ah := eU.get ah hs3
 replace ag := dR.af ag
 replace ag := eU.get ag (fun h => by (have := Own.ge jr h; omega))
 replace ae := ae.ai dR
 replace ae := ae.dO eU (fun k hk hs => by have := lJ k hk; have := (Own.ge jr hs).1; omega)
 replace fV := dR.af fV
 replace fV := eU.get fV (fun h => Own.aT jr fV (by decide) _ h rfl)
 replace fZ := dR.af fZ
 replace fZ := eU.get fZ (fun h => Own.aT jr fZ (by decide) _ h rfl)
 replace gm := dR.af gm
 replace gm := eU.get gm (fun h => Own.lV jr gm _ h rfl)
 replace iF := dR.af iF
 replace iF := eU.get iF (fun h => Own.jd jr iF (by assumption) _ h rfl)
 replace hF := hF.go eU (fun i h hs => by (have := (Own.ge jr hs).1; omega))
 clear jr
 refine nH (by kernel_rfl) (Own.FI dS).1 (Own.FI dS).2 ay (Nat.le_of_ble_eq_true rfl) (by (simp [uN]; rfl)) (fun xM ay _ dF => ?_)
 replace dS := dS.aF dF (Own.aT dS (by assumption) (by decide))
 replace iF := dF.au iF (Ne.symm wM)
 refine uO iF (fun Cj iF _ dH => ?_)
 replace ae := ae.aF dF dN
 replace ah := dF.au ah mf
 replace ag := dF.au ag fF
 replace fV := dF.au fV (Ne.symm MZ)
 replace fZ := dF.au fZ (Ne.symm Na)
 replace gm := dF.au gm (Ne.symm VA)
 replace hF := hF.go1 dF fD
 replace dS := dS.aF dH (Own.jd dS (by assumption) (by assumption))
 replace ae := ae.aF dH lX
 replace ay := dH.au ay wM
 replace ah := dH.au ah tY
 replace ag := dH.au ag qH
 replace fV := dH.au fV vJ
 replace fZ := dH.au fZ vK
 replace gm := dH.au gm pX
 replace hF := hF.go1 dH xE
 exact ⟨_, _, ay, (by exact NW dS), (by exact hrk.snoc (Gs.row_in hiC hob (by rw [← hn]; exact hx))), (by (try simp only [List.length_append, List.length_cons, List.length_nil]); omega), (by intro j hj hji; (simp; done)), (by assumption), ah, ag, ae, fV, fZ, gm, iF, hF⟩
 refine aW ?_
 replace ay := bU.au ay wM
 refine Z.l ay ?_
 refine aW ?_
 refine ak (gK (by kernel_rfl) _ _ _) ?_
 refine aW ?_
 refine az (gtr _ _ _ _) (fun h22 => ?_) (fun h22 => ?_)
 refine aQ (aK ?_)
 refine Z.l ay ?_
 refine dG (e := 3) (m := 1) (z := #[Z.i 0]) (by kernel_rfl) (by kernel_rfl) (by rfl) (by decide) (by (simp [eH, splice, fO, Value.cells, Gs.cv, Gs.fv, Gs.ie]; rfl)) (fun b23 Jl e23 ahp _ jD => ?_)
 have apA : b2 ≠ b23 := by have := aj ay; omega
 have Yb := dS.apart e23
 have apB : b1 ≠ b23 := by have := aj ah; omega
 replace ag := bU.au ag qH
 have apC : bp ≠ b23 := by have := aj ag; omega
 replace ae := ae.aF bU lX
 have als := ae.apart e23
 replace fV := bU.au fV vJ
 have alu : b1_32 ≠ b23 := by have := aj fV; omega
 replace fZ := bU.au fZ vK
 have alv : b2_32 ≠ b23 := by have := aj fZ; omega
 replace gm := bU.au gm pX
 have apD : D5 ≠ b23 := by have := aj gm; omega
 have apE : l5 ≠ b23 := by have := aj iF; omega
 replace hF := hF.go1 bU xE
 have ge_b23 : w.heap.size ≤ b23 := by have := hF.size; omega
 replace dS := dS.ai jD
 replace hF := hF.go0 jD
 refine jG (e := 3) (size := 1) (bytes := 8) (by kernel_rfl) dS (Rd.mP ahp) rfl (by (simp [Value.oneCell']; done)) (by simp only [vals_length, List.length_take, List.length_cons, List.length_nil, List.length_append, List.length_map, List.length_range]; omega) (by have := hF.size; omega) (fun v24 UN N24 hA24 kD => ?_)
 have jr := dS
 replace ah := jD.af ah
 have apF := BG (S' := Jl) hs3 ah hA24
 have aqI : ∀ k, aG v24 k → k ≠ b23 := fun k hk e => Or.elim (hA24 k hk) (fun h => Yb k h e) (fun h => by have := aj ahp; omega)
 replace ay := jD.af ay
 replace ay := kD.get ay (fun h => Own.aT jr ay (by decide) _ h rfl)
 replace dS := N24
 replace ah := kD.get ah hs3
 replace ag := jD.af ag
 replace ag := kD.get ag (fun h => by (have := Own.ge jr h; omega))
 replace ae := ae.ai jD
 replace ae := ae.dO kD (fun k hk hs => by have := lJ k hk; have := (Own.ge jr hs).1; omega)
 replace fV := jD.af fV
 replace fV := kD.get fV (fun h => Own.aT jr fV (by decide) _ h rfl)
 replace fZ := jD.af fZ
 replace fZ := kD.get fZ (fun h => Own.aT jr fZ (by decide) _ h rfl)
 replace gm := jD.af gm
 replace gm := kD.get gm (fun h => Own.lV jr gm _ h rfl)
 replace iF := jD.af iF
 replace iF := kD.get iF (fun h => Own.jd jr iF (by assumption) _ h rfl)
 replace hF := hF.go kD (fun i h hs => by (have := (Own.ge jr hs).1; omega))
 clear jr
 refine nH (by kernel_rfl) (Own.FI dS).1 (Own.FI dS).2 ay (Nat.le_of_ble_eq_true rfl) (by (simp [uN]; rfl)) (fun JC ay _ iq => ?_)
 replace dS := dS.aF iq (Own.aT dS (by assumption) (by decide))
 replace iF := iq.au iF (Ne.symm wM)
 refine uO iF (fun Pg iF _ jm => ?_)
 replace ae := ae.aF iq dN
 replace ah := iq.au ah mf
 replace ag := iq.au ag fF
 replace fV := iq.au fV (Ne.symm MZ)
 replace fZ := iq.au fZ (Ne.symm Na)
 replace gm := iq.au gm (Ne.symm VA)
 replace hF := hF.go1 iq fD
 replace dS := dS.aF jm (Own.jd dS (by assumption) (by assumption))
 replace ae := ae.aF jm lX
 replace ay := jm.au ay wM
 replace ah := jm.au ah tY
 replace ag := jm.au ag qH
 replace fV := jm.au fV vJ
 replace fZ := jm.au fZ vK
 replace gm := jm.au gm pX
 replace hF := hF.go1 jm xE
 exact ⟨_, _, ay, (by exact NW dS), (by exact hrk.snoc (Gs.row_in hiC hob (by rw [← hn]; exact hx))), (by (try simp only [List.length_append, List.length_cons, List.length_nil]); omega), (by intro j hj hji; (simp; done)), (by assumption), ah, ag, ae, fV, fZ, gm, iF, hF⟩
 refine aQ (aH ?_)
 refine uO iF (fun MV iF _ iw => ?_)
 replace ae := ae.aF bU lX
 replace ag := bU.au ag qH
 replace fV := bU.au fV vJ
 replace fZ := bU.au fZ vK
 replace gm := bU.au gm pX
 replace hF := hF.go1 bU xE
 replace dS := dS.aF iw (Own.jd dS (by assumption) (by assumption))
 replace ae := ae.aF iw lX
 replace ay := iw.au ay wM
 replace ah := iw.au ah tY
 replace ag := iw.au ag qH
 replace fV := iw.au fV vJ
 replace fZ := iw.au fZ vK
 replace gm := iw.au gm pX
 replace hF := hF.go1 iw xE
 exact ⟨_, _, ay, (by exact dS), (by exact hrk), (by (try simp only [List.length_append, List.length_cons, List.length_nil]); omega), (by intro j hj hji; (rcases Nat.lt_succ_iff_lt_or_eq.1 hj with h | rfl; exact hnz j h hji; rw [hx] at hji; cases hji; contradiction)), (by assumption), ah, ag, ae, fV, fZ, gm, iF, hF⟩
 exact ⟨_, [], ay, (Own.nil _ _ _ _), (Gs.vY.nil _), (Nat.le_refl _), (fun _ h => absurd h (Nat.not_lt_zero _)), aaF, ah, ag, ae, fV, fZ, gm, iF, hF⟩
 rintro e wE5 ⟨hv, hI | hI⟩
 obtain ⟨v5, l, ay, dS, hrk, hll, hnz, hs3, ah, ag, ae, fV, fZ, gm, iF, hF⟩ := hI
 refine ⟨hv, .inl ⟨iF, fun Vw _ jC => ?_⟩⟩
 replace dS := dS.aF jC (Own.jd dS (by assumption) (by assumption))
 refine hJ4 _ _ ?_
 replace ay := jC.au ay wM
 replace gm := jC.au gm pX
 replace hF := hF.go1 jC xE
 exact ⟨_, _, _, (by rfl), Ic, gm, ay, dS, hrk, (by have := Gs.EJ n (Gs.mX cs (i0 : Int)); omega), (fun ho => by obtain ⟨j, hj⟩ := Gs.alx ho hob; rw [← hn] at hj; exact hnz j (List.getElem?_eq_some_iff.1 hj).1 hj), hF⟩
 exact hI.elim
 obtain ⟨D5, v5, l, g1000000, Ic, gm, ay, dS, hrk, hll, hnz, hF⟩ := hI
 rw [g1000000]
 refine Z.l ay ?_
 refine leave1 gm (fun w30 _ qX => ?_)
 replace dS := dS.aF qX (Own.lV dS (by assumption))
 obtain ⟨A5, c5, rfl, Vz⟩ := dS.bK
 replace hF := hF.go1 qX Ic
 exact ⟨_, rfl, l, _, _, rfl, Vz, .inr fun k hk => (dS.MQ k hk).1, hrk, by omega, by exact hnz, hF⟩
theorem NY {r c cur : Int} {A : Option Addr} {n cp bp B0 b1 : Nat} {cs : List Gs.Cell} {w : World} (ag : Z.h w bp #[Z.i r, Z.i c, .slice A n cp, Z.i cur] 91) (ae : Own B0 w 37 5 (.slice A n cp) (rows Gs.cv cs)) (hW : Gs.Pw r c n cs cur) (ah : Z.h w b1 #[Z.p bp] 33) {i : Int} :
    oX 122 #[Z.i i, Z.p b1] w fun e w' => ∃ v, e = .returned v ∧ ∃ q : Bool, v = .bool q ∧ aB no w w' := by
 refine aaG.calls ?_
 unfold aaG
 obtain ⟨hn, hcw, hcu, hp, hN, hb⟩ := id hW; have hrc := hW.rc
 have hF : aB no w w := Fr.refl _ _ _
 refine Z.l ah ?_
 refine aA (gy ag ae hn (i := i)) (fun w1 U1 => ?_)
 refine ak (qo (off := 0) (by kernel_rfl) (by rfl)) ?_
 refine az (dh _ _ _ _ _) (fun h2 => ?_) (fun h2 => ?_)
 refine aV ?_
 replace ah := U1.af ah
 refine Z.l ah ?_
 refine aV (aV ?_)
 replace ae := ae.ai U1
 replace ag := U1.af ag
 refine aA (gy ag ae hn (i := i)) (fun w3 U3 => ?_)
 refine aV ?_
 refine ak (qo (off := 1) (by kernel_rfl) (by rfl)) ?_
 refine aV ?_
 refine ak (BV _) ?_
 refine aU ?_
 replace hF := (hF.go0 U1).go0 U3
 exact ⟨_, rfl, _, rfl, hF⟩
 refine aP (aP (aP (aP (aP (aQ ?_)))))
 replace hF := hF.go0 U1
 exact ⟨_, rfl, _, rfl, hF⟩
theorem Yc {r c cur : Int} {A : Option Addr} {n cp bp B0 b1 : Nat} {cs : List Gs.Cell} {w : World} (ag : Z.h w bp #[Z.i r, Z.i c, .slice A n cp, Z.i cur] 91) (ae : Own B0 w 37 5 (.slice A n cp) (rows Gs.cv cs)) (hW : Gs.Pw r c n cs cur) (ah : Z.h w b1 #[Z.p bp] 33) {l : List Int} {A1 : Option Addr} {n1 c1 : Nat} (bK : Rd w A1 (vals .i64 l)) (hl1 : n1 = l.length) (hlb : n1 ≤ 4096) :
    oX 121 #[.slice A1 n1 c1, .func (.func 122) #[] #[Z.p b1]] w fun e w' => ∃ v, e = .returned v ∧ ∃ q : Int, v = Z.i q ∧ (-1 ≤ q ∧ q < n1) ∧ aB no w w' := by
 refine aaH.calls ?_
 unfold aaH
 obtain ⟨hn, hcw, hcu, hp, hN, hb⟩ := id hW; have hrc := hW.rc
 have hF : aB no w w := Fr.refl _ _ _
 refine bQ (fun g w' => (aB no w w')) (fun J1 hJ1 => ?_) (fun gJ1 jY hI => ?_)
 refine ak (gK (by kernel_rfl) _ _ _) ?_
 refine eG (fun g w' => ∃ (k : Nat), (g 8 = Z.i (k : Int)) ∧ (k ≤ n1) ∧ (Z.h w' bp #[Z.i r, Z.i c, .slice A n cp, Z.i cur] 91) ∧ (Own B0 w' 37 5 (.slice A n cp) (rows Gs.cv cs)) ∧ (Z.h w' b1 #[Z.p bp] 33) ∧ (Rd w' A1 (vals .i64 l)) ∧ (aB no w w')) (fun g w' => n1 - (RowKit.intOf (g 8)).toNat) ?_ (fun g2 qW hI => ?_)
 exact ⟨0, (by rfl), Nat.zero_le _, ag, ae, ah, bK, hF⟩
 obtain ⟨k, g8, hk, ag, ae, ah, bK, hF⟩ := hI
 rw [g8]
 refine az (lss _ _ _ _) (fun h1 => ?_) (fun h1 => ?_)
 refine aK ?_
 refine nC (by kernel_rfl) (by kernel_rfl) bK (by assumption) (by omega) (by omega) (fun x2 hx2 => ?_)
 simp only [Int.toNat_natCast] at hx2
 refine Sr (by kernel_rfl) (by rfl) (aI (NY ag ae hW ah) (fun v3 w3 D3 => ?_))
 obtain ⟨q16, rfl, U3⟩ := D3
 refine kL (fun h4 => ?_) (fun h4 => ?_)
 replace hF := hF.go0 U3
 exact ⟨_, rfl, _, rfl, by omega, hF⟩
 refine ak (dJ _ (by omega)) ?_
 replace ae := ae.ai U3
 replace bK := bK.ai U3
 replace ag := U3.af ag
 replace ah := U3.af ah
 replace hF := hF.go0 U3
 exact ⟨⟨k + 1, (by rfl), by omega, ag, ae, ah, bK, hF⟩, cnt_lt (by rfl) rfl (by omega)⟩
 refine aH ?_
 refine hJ1 _ _ ?_
 exact hF
 have hF := hI
 exact ⟨_, rfl, _, rfl, by omega, hF⟩
theorem QQ {r c cur : Int} {A : Option Addr} {n cp bp B0 : Nat} {cs : List Gs.Cell} {w : World} (ag : Z.h w bp #[Z.i r, Z.i c, .slice A n cp, Z.i cur] 91) (ae : Own B0 w 37 5 (.slice A n cp) (rows Gs.cv cs)) (hW : Gs.Pw r c n cs cur)  :
    oX 72 #[Z.p bp] w fun e w' => ∃ v, e = .returned v ∧ ∃ (q : Int) (c1 : List Gs.Cell), v = Z.i q ∧ Gs.Pw r c n c1 cur ∧ Gs.Kp cs c1 ∧ (q ≠ 0 → c1 = cs) ∧ Own B0 w' 37 5 (.slice A n cp) (rows Gs.cv c1) ∧ aB (aG (.slice A n cp)) w w' := by
 refine F72.calls ?_
 unfold F72
 obtain ⟨hn, hcw, hcu, hp, hN, hb⟩ := id hW; have hrc := hW.rc
 have hk0 := Gs.Kp.refl cs
 have hF : aB (aG (.slice A n cp)) w w := Fr.refl _ _ _
 refine Z.x _ (fun b1 w1 e1 ah _ U1 => ?_)
 have gZ := ae.apart e1
 refine dV (S := no) (fun w2 U2 => ?_)
 replace ah := U2.af ah
 refine Z.m ah ?_
 refine Z.m ah ?_
 replace ae := (ae.ai U1).ai U2
 replace ag := U2.af (U1.af ag)
 refine gQ (fun w' hw' => by have ag := hw'.af ag; have ae := ae.ai hw'; exact ed ag ae hn) ?_
 refine aJ (fun w4 U4 => ?_)
 replace ae := ae.ai U4
 replace ag := U4.af ag
 refine aI (J7 ag ae hW hcu) (fun v5 w5 D5 => ?_)
 obtain ⟨l8, A8, c8, rfl, rd8, gA8, hr8, hl8, ho8, U5⟩ := D5
 have VB : _ ∨ ∀ k, _ → ¬ aG _ k := gA8.imp_right fun h k hk hs => by have := h k hk; have := (Own.ge ae hs).2; omega
 refine aJ (fun w6 U6 => ?_)
 refine ak (mkF _ _ _) ?_
 replace ah := U6.af (U5.af (U4.af ah))
 replace ae := (ae.ai U5).ai U6
 replace ag := U6.af (U5.af ag)
 replace rd8 := rd8.ai U6
 refine aI (Yc ag ae hW ah rd8 rfl (by omega)) (fun v7 w7 D7 => ?_)
 obtain ⟨q11, rfl, hq11, U7⟩ := D7
 refine az (lss _ _ _ _) (fun h8 => ?_) (fun h8 => ?_)
 refine aK ?_
 replace hF := (((((hF.go0 U1).go0 U2).go0 U4).go0 U5).go0 U6).go0 U7
 replace ae := ae.ai U7
 exact ⟨_, rfl, _, _, rfl, hW, hk0, (fun _ => rfl), ae, hF⟩
 refine aH ?_
 refine bQ (fun g w' => ∃ (c1 : List Gs.Cell), (Gs.Kp cs c1) ∧ (Gs.Pw r c n c1 cur) ∧ (Own B0 w' 37 5 (.slice A n cp) (rows Gs.cv c1)) ∧ (aB (aG (.slice A n cp)) w w')) (fun J1 hJ1 => ?_) (fun gJ1 jY hI => ?_)
 refine eG (fun g w' => ∃ (k : Nat) (c1 : List Gs.Cell), (g 4 = Z.i (k : Int)) ∧ (k < l8.length) ∧ (Gs.Kp cs c1) ∧ (Gs.Pw r c n c1 cur) ∧ (Z.h w' bp #[Z.i r, Z.i c, .slice A n cp, Z.i cur] 91) ∧ (Own B0 w' 37 5 (.slice A n cp) (rows Gs.cv c1)) ∧ (Z.h w' b1 #[Z.p bp] 33) ∧ (Rd w' A8 (vals .i64 l8)) ∧ (vals .i64 l8 = [] ∨ ∀ k, fC A8 k → ¬ aG (.slice A n cp) k) ∧ (aB (aG (.slice A n cp)) w w')) (fun g w' => (RowKit.intOf (g 4)).toNat) ?_ (fun g2 qW hI => ?_)
 replace hF := (((((hF.go0 U1).go0 U2).go0 U4).go0 U5).go0 U6).go0 U7
 replace ae := ae.ai U7
 replace rd8 := rd8.ai U7
 replace ag := U7.af ag
 replace ah := U7.af ah
 exact ⟨q11.toNat, cs, (congrArg (Value.int .i64) (by omega)), (by omega), hk0, hW, ag, ae, ah, rd8, (by assumption), hF⟩
 replace hF := (((((hF.go0 U1).go0 U2).go0 U4).go0 U5).go0 U6).go0 U7
 replace ae := ae.ai U7
 replace rd8 := rd8.ai U7
 replace ag := U7.af ag
 replace ah := U7.af ah
 obtain ⟨k, c1, g4, hk, hk1, hW1, ag, ae, ah, rd8, na_rd8, hF⟩ := hI
 rw [g4]
 refine az (gtr _ _ _ _) (fun h10 => ?_) (fun h10 => ?_)
 refine aK ?_
 refine dV (S := no) (fun nT bD => ?_)
 replace ah := bD.af ah
 refine Z.m ah ?_
 replace rd8 := rd8.ai bD
 refine oH (by kernel_rfl) (by kernel_rfl) (fun w' hw' => rd8.ai hw') (Fr.refl _ _ _) (by rfl) (by omega) (by omega) (fun x12 QM => ?_)
 simp only [Int.toNat_natCast] at QM
 refine Z.m ah ?_
 refine bI (fun w' hw' => (yS _ (by omega))) ?_
 refine oH (by kernel_rfl) (by kernel_rfl) (fun w' hw' => rd8.ai hw') (Fr.refl _ _ _) (by rfl) (by omega) (by omega) (fun Nc tZ => ?_)
 replace ae := ae.ai bD
 replace ag := bD.af ag
 refine gQ (fun w' hw' => by have ag := hw'.af ag; have ae := ae.ai hw'; exact gy ag ae hW1.1 (i := Nc)) ?_
 refine aJ (fun ut bT => ?_)
 replace ae := ae.ai bT
 replace ag := bT.af ag
 refine aI (jZ ag ae hW1.1 (i := x12) (x := Gs.bH c1 Nc)) (fun v16 w16 D16 => ?_)
 obtain ⟨rfl, N16, bU⟩ := D16
 have aN := ae
 replace ag := bU.get ag (fun h => Own.aT aN ag (by decide) _ h rfl)
 replace ae := N16
 replace ah := bT.af ah
 replace ah := bU.get ah (fun h => gZ _ h rfl)
 replace rd8 := rd8.ai bT
 replace rd8 := rd8.dO bU VB
 replace hF := (hF.go0 bD).go0 bT
 replace hF := hF.go bU (fun i h hs => by exact hs)
 clear aN
 refine aJ (fun vW di => ?_)
 refine ak (yS _ (by omega)) ?_
 replace ae := ae.ai di
 replace rd8 := rd8.ai di
 replace ag := di.af ag
 replace ah := di.af ah
 replace hF := hF.go0 di
 exact ⟨⟨k - 1, _, (congrArg (Value.int .i64) (by omega)), (by omega), (hk1.set (hr8.get QM).2 (((hk1.2 _).1).trans (hr8.get tZ).2)), (hW1.set _ (Gs.sO hW1.2.1 _)), ag, ae, ah, rd8, (by assumption), hF⟩, aly (by rfl) rfl (by omega)⟩
 refine aH ?_
 refine hJ1 _ _ ?_
 exact ⟨_, hk1, hW1, ae, hF⟩
 replace hF := (((((hF.go0 U1).go0 U2).go0 U4).go0 U5).go0 U6).go0 U7
 replace ae := ae.ai U7
 obtain ⟨c1, hk1, hW1, ae, hF⟩ := hI
 exact ⟨_, rfl, _, _, rfl, hW1, hk1, (fun h => absurd rfl h), ae, hF⟩
theorem VC {r c cur : Int} {A : Option Addr} {n cp bp B0 : Nat} {cs : List Gs.Cell} {w : World} (ag : Z.h w bp #[Z.i r, Z.i c, .slice A n cp, Z.i cur] 91) (ae : Own B0 w 37 5 (.slice A n cp) (rows Gs.cv cs)) (hW : Gs.Pw r c n cs cur) {x : Int} (hxb : 0 ≤ x ∧ x ≤ 255) :
    oX 71 #[Z.p bp, Z.u x] w fun e w' => ∃ v, e = .returned v ∧ ∃ q : Int, v = Z.i q ∧ (q = 0 → Gs.jI cs cur = true) ∧ aB no w w' := by
 refine Su.calls ?_
 unfold Su
 obtain ⟨hn, hcw, hcu, hp, hN, hb⟩ := id hW; have hrc := hW.rc
 have hF : aB no w w := Fr.refl _ _ _
 refine aA (ed ag ae hn) (fun w1 U1 => ?_)
 replace ae := ae.ai U1
 replace ag := U1.af ag
 refine aA (sN ag ae hn hN hb hcw (i := cur)) (fun w2 U2 => ?_)
 cases hob : Gs.mD cs cur
 refine Z.e ?_
 refine Z.e ?_
 refine Z.n ((Gs.fv Gs.zf).toArray) (fun b3 w3 e3 bG _ U3 => ?_)
 replace ag := U2.af ag
 have lm : bp ≠ b3 := by have := aj ag; omega
 replace ae := ae.ai U2
 have iO := ae.apart e3
 replace hF := (hF.go0 U1).go0 U2
 have jH : w.heap.size ≤ b3 := by have := hF.size; omega
 refine Z.t 3 ((Gs.fv (Gs.mX cs cur)).toArray) (by (simp [Value.cells, Value.oneCell', Gs.cv, Gs.fv, Gs.ie]; done)) bG (fun w4 N4 _ U4 => ?_)
 replace ae := (ae.ai U3).aF U4 iO
 replace ag := U4.au (U3.af ag) lm
 refine aA (ed ag ae hn) (fun w5 U5 => ?_)
 replace ae := ae.ai U5
 replace ag := U5.af ag
 refine eF (oZ ag ae hn hN hb hcw (i := cur)) (fun w6 U6 h6 => ?_) (fun w6 U6 h6 => ?_)
 refine ak (jE) ?_
 refine aH (aP (aP (aP (aQ (aP (aP (aP (aQ (aH ?_)))))))))
 replace hF := (((hF.go0 U3).go1 U4 jH).go0 U5).go0 U6
 exact ⟨_, rfl, _, rfl, by exact fun _ => by assumption, hF⟩
 refine ak (mY) ?_
 refine aK ?_
 replace hF := (((hF.go0 U3).go1 U4 jH).go0 U5).go0 U6
 exact ⟨_, rfl, _, rfl, by exact fun h => absurd h (by decide), hF⟩
 refine Z.e ?_
 refine Z.e ?_
 refine Z.n ((Gs.fv Gs.zf).toArray) (fun b9 w9 e9 jB _ U9 => ?_)
 replace ag := U2.af ag
 have Ia : bp ≠ b9 := by have := aj ag; omega
 replace ae := ae.ai U2
 have Be := ae.apart e9
 replace hF := (hF.go0 U1).go0 U2
 have qO : w.heap.size ≤ b9 := by have := hF.size; omega
 refine Z.t 3 ((Gs.fv (Gs.mX cs cur)).toArray) (by (simp [Value.cells, Value.oneCell', Gs.cv, Gs.fv, Gs.ie]; done)) jB (fun w10 jB _ aX => ?_)
 replace ae := (ae.ai U9).aF aX Be
 replace ag := aX.au (U9.af ag) Ia
 refine aA (ed ag ae hn) (fun nT bD => ?_)
 replace ae := ae.ai bD
 replace ag := bD.af ag
 refine eF (oZ ag ae hn hN hb hcw (i := cur)) (fun w12 bW h12 => ?_) (fun w12 bW h12 => ?_)
 refine ak (jE) ?_
 refine aH (aV ?_)
 refine Z.f 2 ?_
 refine aV ?_
 replace jB := bW.af (bD.af jB)
 refine Z.l jB ?_
 refine aV ?_
 refine eF (Au (Gs.aay hcw cur)) (fun ve dC h13 => ?_) (fun ve dC h13 => ?_)
 simp only [Z.d, Z.c] at h13
 refine aU (aV (aV ?_))
 refine eF (PE hxb) (fun rF bZ h14 => ?_) (fun rF bZ h14 => ?_)
 simp only [Z.d, Z.c] at h14
 refine aV ?_
 refine ak (jE) ?_
 refine aU (aH ?_)
 replace hF := (((((hF.go0 U9).go1 aX qO).go0 bD).go0 bW).go0 dC).go0 bZ
 exact ⟨_, rfl, _, rfl, by exact fun _ => by assumption, hF⟩
 simp only [Z.d, Z.c] at h14
 refine aV ?_
 refine ak (mY) ?_
 refine aU (aK ?_)
 replace hF := (((((hF.go0 U9).go1 aX qO).go0 bD).go0 bW).go0 dC).go0 bZ
 exact ⟨_, rfl, _, rfl, by exact fun _ => by assumption, hF⟩
 simp only [Z.d, Z.c] at h13
 refine aU (aP (aP (aP (aQ (aH ?_)))))
 replace hF := ((((hF.go0 U9).go1 aX qO).go0 bD).go0 bW).go0 dC
 exact ⟨_, rfl, _, rfl, by exact fun _ => by assumption, hF⟩
 refine ak (mY) ?_
 refine aK ?_
 replace hF := (((hF.go0 U9).go1 aX qO).go0 bD).go0 bW
 exact ⟨_, rfl, _, rfl, by exact fun h => absurd h (by decide), hF⟩
theorem DT {r c cur : Int} {A : Option Addr} {n cp bp B0 : Nat} {cs : List Gs.Cell} {w : World} (ag : Z.h w bp #[Z.i r, Z.i c, .slice A n cp, Z.i cur] 91) (ae : Own B0 w 37 5 (.slice A n cp) (rows Gs.cv cs)) (hW : Gs.Pw r c n cs cur) {x : Int} {ins : Bool} (hxb : 0 ≤ x ∧ x ≤ 255) :
    oX 37 #[Z.p bp, Z.u x, .bool ins] w fun e w' => ∃ v, e = .returned v ∧ ∃ (q : Int) (c1 : List Gs.Cell) (cur1 : Int), v = Z.i q ∧ Gs.Pw r c n c1 cur1 ∧ ((q = 0 ∧ Gs.jI cs cur = true ∧ Gs.Mk cs c1 cur) ∨ (q ≠ 0 ∧ c1 = cs ∧ cur1 = cur)) ∧ Z.h w' bp #[Z.i r, Z.i c, .slice A n cp, Z.i cur1] 91 ∧ Own B0 w' 37 5 (.slice A n cp) (rows Gs.cv c1) ∧ aB (fun k => aG (.slice A n cp) k ∨ k = bp) w w' := by
 refine Sv.calls ?_
 unfold Sv
 obtain ⟨hn, hcw, hcu, hp, hN, hb⟩ := id hW; have hrc := hW.rc
 have hk0 := Gs.Kp.refl cs
 have hF : aB (fun k => aG (.slice A n cp) k ∨ k = bp) w w := Fr.refl _ _ _
 refine aA (ed ag ae hn) (fun w1 U1 => ?_)
 replace ae := ae.ai U1
 replace ag := U1.af ag
 refine aI (VC ag ae hW hxb) (fun v2 w2 D2 => ?_)
 obtain ⟨e15, rfl, he15, U2⟩ := D2
 refine az (jO _ _ _ _ _) (fun h3 => ?_) (fun h3 => ?_)
 refine aK ?_
 replace hF := (hF.go0 U1).go0 U2
 replace ae := ae.ai U2
 replace ag := U2.af ag
 exact ⟨_, rfl, _, _, _, rfl, hW, .inr ⟨by assumption, rfl, rfl⟩, ag, ae, hF⟩
 refine aH ?_
 have hop := he15 (Classical.not_not.1 (by assumption))
 replace ae := ae.ai U2
 replace ag := U2.af ag
 refine aA (gy ag ae hn (i := cur)) (fun w5 U5 => ?_)
 refine Z.n ((Gs.cv Gs.zc).toArray) (fun b6 w6 e6 pg _ U6 => ?_)
 replace ag := U5.af ag
 have wO : bp ≠ b6 := by have := aj ag; omega
 replace ae := ae.ai U5
 have qg := ae.apart e6
 replace hF := ((hF.go0 U1).go0 U2).go0 U5
 have yw : w.heap.size ≤ b6 := by have := hF.size; omega
 refine Z.t 5 ((Gs.cv (Gs.bH cs cur)).toArray) (by (simp [Value.cells, Value.oneCell', Gs.cv, Gs.fv, Gs.ie]; done)) pg (fun w7 pg _ U7 => ?_)
 refine bQ (fun g w' => ∃ (c1 : List Gs.Cell), (Gs.Kp cs c1) ∧ (Gs.Pw r c n c1 cur) ∧ (Gs.jI cs cur = true) ∧ (Z.h w' bp #[Z.i r, Z.i c, .slice A n cp, Z.i cur] 91) ∧ (Own B0 w' 37 5 (.slice A n cp) (rows Gs.cv c1)) ∧ (Z.h w' b6 ((Gs.cv (Gs.bH cs cur)).toArray) 37) ∧ (aB (fun k => aG (.slice A n cp) k ∨ k = bp) w w')) (fun J1 hJ1 => ?_) (fun gJ1 jY hI => ?_)
 refine kL (fun h8 => ?_) (fun h8 => ?_)
 replace ae := (ae.ai U6).aF U7 qg
 replace ag := U7.au (U6.af ag) wO
 refine aI (QQ ag ae hW) (fun v9 w9 D9 => ?_)
 obtain ⟨e24, c1, rfl, hW1, hk1, he24, N9, U9⟩ := D9
 have aN := ae
 replace ag := U9.get ag (fun h => Own.aT aN ag (by decide) _ h rfl)
 replace ae := N9
 replace pg := U9.get pg (fun h => qg _ h rfl)
 replace hF := (hF.go0 U6).go1 U7 yw
 replace hF := hF.go U9 (fun i h hs => .inl hs)
 clear aN
 refine az (jO _ _ _ _ _) (fun h10 => ?_) (fun h10 => ?_)
 refine aK ?_
 exact ⟨_, rfl, _, _, _, rfl, hW1, .inr ⟨by assumption, he24 (by assumption), rfl⟩, ag, ae, hF⟩
 refine aH ?_
 refine hJ1 _ _ ?_
 exact ⟨_, (by exact hk1), (by exact hW1), hop, ag, ae, pg, hF⟩
 refine hJ1 _ _ ?_
 replace ae := (ae.ai U6).aF U7 qg
 replace ag := U7.au (U6.af ag) wO
 replace hF := (hF.go0 U6).go1 U7 yw
 exact ⟨_, (by exact hk0), (by exact hW), hop, ag, ae, pg, hF⟩
 replace ae := (ae.ai U6).aF U7 qg
 replace ag := U7.au (U6.af ag) wO
 replace hF := (hF.go0 U6).go1 U7 yw
 obtain ⟨c1, hk1, hW1, hop, ag, ae, pg, hF⟩ := hI
 refine Z.f 3 ?_
 refine Z.l pg ?_
 refine Z.f 4 ?_
 refine Z.l pg ?_
 refine ak (bF (l := [(0, 1), (1, 1), (2, 1), (3, 1), (4, 1)]) (z := #[Z.u 0, .bool false, .bool false, Z.u 0, Z.u 0]) (cs := Gs.cv ⟨x, false, false, (Gs.bH cs cur).l, (Gs.bH cs cur).c⟩) (by kernel_rfl) (by rfl)) ?_
 have hw2 := hW1.set cur (x := ⟨x, false, false, (Gs.bH cs cur).l, (Gs.bH cs cur).c⟩) hxb
 have hw3 := hw2.mark cur
 have hmk := Gs.Mk.of (i := cur) (x := ⟨x, false, false, (Gs.bH cs cur).l, (Gs.bH cs cur).c⟩) (Gs.aji hop) rfl hk1
 refine aI (jZ ag ae hW1.1 (i := cur) (x := ⟨x, false, false, (Gs.bH cs cur).l, (Gs.bH cs cur).c⟩)) (fun v13 ve D13 => ?_)
 obtain ⟨rfl, N13, dC⟩ := D13
 have aN := ae
 replace ag := dC.get ag (fun h => Own.aT aN ag (by decide) _ h rfl)
 replace ae := N13
 replace hF := hF.go dC (fun i h hs => .inl hs)
 clear aN
 refine aI (wP ag ae hw2.1 hN hb hw2.2.1 (i := cur)) (fun v14 rF D14 => ?_)
 obtain ⟨rfl, N14, bZ⟩ := D14
 have aN := ae
 replace ag := bZ.get ag (fun h => Own.aT aN ag (by decide) _ h rfl)
 replace ae := N14
 replace hF := hF.go bZ (fun i h hs => .inl hs)
 clear aN
 refine aI (aaA ag ae hw3) (fun v15 ut D15 => ?_)
 obtain ⟨cur2, rfl, hW2, N15, bT⟩ := D15
 replace ae := ae.aF bT (Own.aT ae (by assumption) (by decide))
 replace ag := N15
 replace hF := hF.go bT (fun i _ h => .inr h)
 exact ⟨_, rfl, _, _, _, rfl, hW2, .inl ⟨rfl, hop, hmk⟩, ag, ae, hF⟩
theorem PG {r c cur : Int} {A : Option Addr} {n cp bp B0 : Nat} {cs : List Gs.Cell} {w : World} (ag : Z.h w bp #[Z.i r, Z.i c, .slice A n cp, Z.i cur] 91) (ae : Own B0 w 37 5 (.slice A n cp) (rows Gs.cv cs)) (hW : Gs.Pw r c n cs cur)  :
    oX 91 #[Z.p bp] w fun e w' => ∃ v, e = .returned v ∧ ∃ (q : Int) (c1 : List Gs.Cell) (cur1 : Int), v = Z.i q ∧ Gs.Pw r c n c1 cur1 ∧ ((q = 0 ∧ Gs.jI cs cur = true ∧ Gs.Mk cs c1 cur) ∨ (q ≠ 0 ∧ c1 = cs ∧ cur1 = cur)) ∧ Z.h w' bp #[Z.i r, Z.i c, .slice A n cp, Z.i cur1] 91 ∧ Own B0 w' 37 5 (.slice A n cp) (rows Gs.cv c1) ∧ aB (fun k => aG (.slice A n cp) k ∨ k = bp) w w' := by
 refine F91.calls ?_
 unfold F91
 obtain ⟨hn, hcw, hcu, hp, hN, hb⟩ := id hW; have hrc := hW.rc
 have hk0 := Gs.Kp.refl cs
 have hF : aB (fun k => aG (.slice A n cp) k ∨ k = bp) w w := Fr.refl _ _ _
 refine aA (ed ag ae hn) (fun w1 U1 => ?_)
 replace ae := ae.ai U1
 replace ag := U1.af ag
 refine eF (oZ ag ae hn hN hb hcw (i := cur)) (fun w2 U2 h2 => ?_) (fun w2 U2 h2 => ?_)
 refine ak (jE) ?_
 refine aH ?_
 have hop : Gs.jI cs cur = true := by assumption
 replace ae := ae.ai U2
 replace ag := U2.af ag
 refine aI (J7 ag ae hW hcu) (fun v3 w3 D3 => ?_)
 obtain ⟨l14, A14, c14, rfl, vS, gA14, hr14, hl14, ho14, U3⟩ := D3
 have Ue : _ ∨ ∀ k, _ → ¬ aG _ k := gA14.imp_right fun h k hk hs => by have := h k hk; have := (Own.ge ae hs).2; omega
 have hlz := List.length_pos_iff.2 (ho14 hop)
 refine bQ (fun g w' => ∃ (c1 : List Gs.Cell), (Gs.Kp cs c1) ∧ (Gs.Pw r c n c1 cur) ∧ (Z.h w' bp #[Z.i r, Z.i c, .slice A n cp, Z.i cur] 91) ∧ (Own B0 w' 37 5 (.slice A n cp) (rows Gs.cv c1)) ∧ (Rd w' A14 (vals .i64 l14)) ∧ (aB (fun k => aG (.slice A n cp) k ∨ k = bp) w w')) (fun J1 hJ1 => ?_) (fun gJ1 jY hI => ?_)
 refine ak (gK (by kernel_rfl) _ _ _) ?_
 refine ak (yS _ (by omega)) ?_
 refine eG (fun g w' => ∃ (k : Nat) (c1 : List Gs.Cell), (g 18 = Z.i (k : Int)) ∧ (k ≤ (l14.length - 1)) ∧ (Gs.Kp cs c1) ∧ (Gs.Pw r c n c1 cur) ∧ (Z.h w' bp #[Z.i r, Z.i c, .slice A n cp, Z.i cur] 91) ∧ (Own B0 w' 37 5 (.slice A n cp) (rows Gs.cv c1)) ∧ (Rd w' A14 (vals .i64 l14)) ∧ (aB (fun k => aG (.slice A n cp) k ∨ k = bp) w w')) (fun g w' => (l14.length - 1) - (RowKit.intOf (g 18)).toNat) ?_ (fun g2 qW hI => ?_)
 replace hF := ((hF.go0 U1).go0 U2).go0 U3
 replace ae := ae.ai U3
 replace ag := U3.af ag
 exact ⟨0, cs, (by rfl), Nat.zero_le _, hk0, hW, ag, ae, vS, hF⟩
 replace hF := ((hF.go0 U1).go0 U2).go0 U3
 replace ae := ae.ai U3
 replace ag := U3.af ag
 obtain ⟨k, c1, g18, hk, hk1, hW1, ag, ae, vS, hF⟩ := hI
 rw [g18]
 refine az (lss _ _ _ _) (fun h4 => ?_) (fun h4 => ?_)
 refine aK ?_
 refine dV (S := no) (fun w5 U5 => ?_)
 replace vS := vS.ai U5
 refine oH (by kernel_rfl) (by kernel_rfl) (fun w' hw' => vS.ai hw') (Fr.refl _ _ _) (by rfl) (by omega) (by omega) (fun x6 hx6 => ?_)
 simp only [Int.toNat_natCast] at hx6
 refine bI (fun w' hw' => (dJ _ (by omega))) ?_
 refine oH (by kernel_rfl) (by kernel_rfl) (fun w' hw' => vS.ai hw') (Fr.refl _ _ _) (by rfl) (by omega) (by omega) (fun x7 hx7 => ?_)
 replace ae := ae.ai U5
 replace ag := U5.af ag
 refine gQ (fun w' hw' => by have ag := hw'.af ag; have ae := ae.ai hw'; exact gy ag ae hW1.1 (i := x7)) ?_
 refine aJ (fun w9 U9 => ?_)
 replace ae := ae.ai U9
 replace ag := U9.af ag
 refine aI (jZ ag ae hW1.1 (i := x6) (x := Gs.bH c1 x7)) (fun v10 w10 D10 => ?_)
 obtain ⟨rfl, N10, aX⟩ := D10
 have aN := ae
 replace ag := aX.get ag (fun h => Own.aT aN ag (by decide) _ h rfl)
 replace ae := N10
 replace vS := vS.ai U9
 replace vS := vS.dO aX Ue
 replace hF := (hF.go0 U5).go0 U9
 replace hF := hF.go aX (fun i h hs => .inl hs)
 clear aN
 refine aJ (fun nT bD => ?_)
 refine ak (dJ _ (by omega)) ?_
 replace ae := ae.ai bD
 replace vS := vS.ai bD
 replace ag := bD.af ag
 replace hF := hF.go0 bD
 exact ⟨⟨k + 1, _, (by rfl), by omega, (hk1.set (hr14.get hx6).2 (((hk1.2 _).1).trans (hr14.get hx7).2)), (hW1.set _ (Gs.sO hW1.2.1 _)), ag, ae, vS, hF⟩, cnt_lt (by rfl) rfl (by omega)⟩
 refine aH ?_
 refine hJ1 _ _ ?_
 exact ⟨_, hk1, hW1, ag, ae, vS, hF⟩
 replace hF := ((hF.go0 U1).go0 U2).go0 U3
 replace ae := ae.ai U3
 replace ag := U3.af ag
 obtain ⟨c1, hk1, hW1, ag, ae, vS, hF⟩ := hI
 refine ak (gK (by kernel_rfl) _ _ _) ?_
 refine ak (yS _ (by omega)) ?_
 refine nC (by kernel_rfl) (by kernel_rfl) vS (by rfl) (by omega) (by omega) (fun x12 QM => ?_)
 refine ak (bF (l := [(0, 1), (1, 1), (2, 1), (3, 1), (4, 1)]) (z := #[Z.u 0, .bool false, .bool false, Z.u 0, Z.u 0]) (cs := (Gs.cv Gs.zc)) (by kernel_rfl) (by rfl)) ?_
 have hw2 := hW1.set x12 Gs.DU
 have hw3 := hw2.mark cur
 have hmk : Gs.Mk cs (Gs.lT (Gs.iC c1 x12 Gs.zc) cur) cur := ⟨_, hk1.set (hr14.get QM).2 rfl, rfl⟩
 refine aI (jZ ag ae hW1.1 (i := x12) (x := Gs.zc)) (fun v13 ve D13 => ?_)
 obtain ⟨rfl, N13, dC⟩ := D13
 have aN := ae
 replace ag := dC.get ag (fun h => Own.aT aN ag (by decide) _ h rfl)
 replace ae := N13
 replace hF := hF.go dC (fun i h hs => .inl hs)
 clear aN
 refine aI (wP ag ae hw2.1 hN hb hw2.2.1 (i := cur)) (fun v14 rF D14 => ?_)
 obtain ⟨rfl, N14, bZ⟩ := D14
 have aN := ae
 replace ag := bZ.get ag (fun h => Own.aT aN ag (by decide) _ h rfl)
 replace ae := N14
 replace hF := hF.go bZ (fun i h hs => .inl hs)
 clear aN
 exact ⟨_, rfl, _, _, _, rfl, hw3, .inl ⟨rfl, hop, hmk⟩, ag, ae, hF⟩
 refine ak (mY) ?_
 refine aK ?_
 replace hF := (hF.go0 U1).go0 U2
 replace ae := ae.ai U2
 replace ag := U2.af ag
 exact ⟨_, rfl, _, _, _, rfl, hW, .inr ⟨by decide, rfl, rfl⟩, ag, ae, hF⟩
theorem MM {r c cur : Int} {A : Option Addr} {n cp bp B0 b1 b2 : Nat} {f : Gs.su} {y : Value} {J : Nat → World → Prop} {X : World → Prop} {w : World} (hcap : ∀ k w', J k w' → Z.h w' b1 #[Z.p bp] 33 ∧ Z.h w' b2 ((Gs.fv f).toArray) 173 ∧ Z.h w' bp #[Z.i r, Z.i c, .slice A n cp, Z.i cur] 91 ∧ ∃ cs : List Gs.Cell, n = cs.length ∧ Own B0 w' 37 5 (.slice A n cp) (rows Gs.cv cs)) (hst : ∀ k w' w'', J k w' → aB no w' w'' → J k w'') (hsx : ∀ w' w'', X w' → aB no w' w'' → X w'') (hN : Gs.aY r c = n) (hb : n ≤ 4096) (hy : ∀ k w' x, (Gs.iP n f)[k]? = some x → J k w' → Gy Tryz.prog y #[Z.i x] w' (J (k + 1)) X) (h0 : J 0 w) :
    oX 161 #[y, Z.p b2, Z.p b1] w fun e w' => (∃ v, e = .returned v) ∧ (J (Gs.iP n f).length w' ∨ X w') := by
 refine QR.calls ?_
 unfold QR
 obtain ⟨ah, ay, ag, cs, hn, ae⟩ := hcap _ _ h0
 refine dV (S := no) (fun w1 U1 => ?_)
 replace h0 := hst _ _ _ h0 U1
 refine Z.g 0 ?_
 replace ay := U1.af ay
 refine Z.m ay ?_
 refine lW (fun w' hw' => (lss _ _ _ _)) (fun h2 => ?_) (fun h2 => ?_)
 refine jv (jv (jv (jv (jv (mr ?_)))))
 refine aJ (fun w3 U3 => ?_)
 replace h0 := hst _ _ _ h0 U3
 refine aK ?_
 exact ⟨⟨_, rfl⟩, .inl (by rw [Gs.yT (by omega)]; exact h0)⟩
 refine eX ?_
 refine Z.g 0 ?_
 refine eX ?_
 refine Z.m ay ?_
 refine eX ?_
 replace ah := U1.af ah
 refine Z.m ah ?_
 refine eX ?_
 replace ae := ae.ai U1
 replace ag := U1.af ag
 refine gQ (fun w' hw' => by have ag := hw'.af ag; have ae := ae.ai hw'; exact fH ag ae hn) ?_
 refine eX ?_
 refine lW (fun w' hw' => (geq _ _ _ _)) (fun h6 => ?_) (fun h6 => ?_)
 refine jL ?_
 refine aJ (fun w7 U7 => ?_)
 replace h0 := hst _ _ _ h0 U7
 refine aK ?_
 exact ⟨⟨_, rfl⟩, .inl (by rw [Gs.yT (by omega)]; exact h0)⟩
 refine jL ?_
 refine aJ (fun w9 U9 => ?_)
 replace h0 := hst _ _ _ h0 U9
 refine aH ?_
 refine dV (S := no) (fun w10 aX => ?_)
 replace h0 := hst _ _ _ h0 aX
 refine Z.g 1 ?_
 replace ay := aX.af (U9.af ay)
 refine Z.m ay ?_
 refine bI (fun w' hw' => (alz _ _ _ _ _)) ?_
 replace ah := aX.af (U9.af ah)
 refine Z.m ah ?_
 replace ae := (ae.ai U9).ai aX
 replace ag := aX.af (U9.af ag)
 refine gQ (fun w' hw' => by have ag := hw'.af ag; have ae := ae.ai hw'; exact fH ag ae hn) ?_
 refine bI (fun w' hw' => (alA _ _ _ _ _)) ?_
 refine aJ (fun w12 bW => ?_)
 replace h0 := hst _ _ _ h0 bW
 refine eG (fun g w' => ∃ k : Nat, k ≤ (Gs.iP n f).length ∧ g 21 = Z.i (k : Int) ∧ J k w') (fun g w' => (Gs.iP n f).length - (RowKit.intOf (g 21)).toNat) ?_ (fun g1 wl1 hI => ?_)
 have hpl := Gs.uP (N := n) (f := f) (by omega)
 exact ⟨0, Nat.zero_le _, rfl, h0⟩
 have hpl := Gs.uP (N := n) (f := f) (by omega)
 obtain ⟨k, hk, g21, hJ⟩ := hI
 rw [g21]
 replace ae := ae.ai bW
 replace ah := bW.af ah
 replace ay := bW.af ay
 replace ag := bW.af ag
 obtain ⟨ah, ay, ag, cs, hn, ae⟩ := hcap _ _ hJ
 refine az (lss _ _ _ _) (fun h13 => ?_) (fun h13 => ?_)
 refine aK ?_
 refine dV (S := no) (fun rF bZ => ?_)
 replace hJ := hst _ _ _ hJ bZ
 replace ah := bZ.af ah
 refine Z.m ah ?_
 replace ae := ae.ai bZ
 replace ag := bZ.af ag
 refine gQ (fun w' hw' => by have ag := hw'.af ag; have ae := ae.ai hw'; exact kP ag ae hn) ?_
 refine Z.g 0 ?_
 replace ay := bZ.af ay
 refine Z.m ay ?_
 refine bI (fun w' hw' => (dJ _ (by omega))) ?_
 refine gQ (fun w' hw' => nI (i := f.s) (j := (k : Int) + 1)) ?_
 rw [hN, Gs.uf (by omega), show ((k : Int) + 1) = ((k + 1 : Nat) : Int) by omega]
 refine aJ (fun vW di => ?_)
 replace hJ := hst _ _ _ hJ di
 refine Ig (hy k _ _ (Gs.yU (by omega)) hJ) (fun wy18 hJ2 => ?_) (fun wy18 hX => ?_)
 replace ae := ae.ai di
 replace ah := di.af ah
 replace ay := di.af ay
 replace ag := di.af ag
 obtain ⟨ah, ay, ag, cs, hn, ae⟩ := hcap _ _ hJ2
 refine bI (fun w' hw' => (jE)) ?_
 refine aJ (fun Ag eU => ?_)
 replace hJ2 := hst _ _ _ hJ2 eU
 refine aH ?_
 refine ak (dJ _ (by omega)) ?_
 exact ⟨⟨k + 1, by omega, rfl, hJ2⟩, cnt_lt (by rfl) rfl (by omega)⟩
 refine bI (fun w' hw' => (mY)) ?_
 refine aJ (fun xM dF => ?_)
 replace hX := hsx _ _ hX dF
 refine aK ?_
 exact ⟨⟨_, rfl⟩, .inr hX⟩
 refine aH ?_
 exact ⟨⟨_, rfl⟩, .inl (by rw [show (Gs.iP n f).length = k by omega]; exact hJ)⟩
theorem Yd {r c cur : Int} {A : Option Addr} {n cp bp B0 : Nat} {cs : List Gs.Cell} {w : World} (ag : Z.h w bp #[Z.i r, Z.i c, .slice A n cp, Z.i cur] 91) (ae : Own B0 w 37 5 (.slice A n cp) (rows Gs.cv cs)) (hW : Gs.Pw r c n cs cur) {i : Int} :
    oX 134 #[Z.p bp, Z.i i] w fun e w' => ∃ v, e = .returned v ∧ ∃ (k : Int) (q : Bool) (c1 : List Gs.Cell), v = .tuple #[Z.i k, .bool q] ∧ Gs.Pw r c n c1 cur ∧ ((q = true ∧ Gs.jI cs i = true ∧ Gs.Mk cs c1 i) ∨ (q = false ∧ c1 = cs)) ∧ Own B0 w' 37 5 (.slice A n cp) (rows Gs.cv c1) ∧ aB (aG (.slice A n cp)) w w' := by
 refine aaI.calls ?_
 unfold aaI
 obtain ⟨hn, hcw, hcu, hp, hN, hb⟩ := id hW; have hrc := hW.rc
 have hk0 := Gs.Kp.refl cs
 have xC := aj ag
 have lJ := Own.lt ae
 have hF : aB (aG (.slice A n cp)) w w := Fr.refl _ _ _
 refine Z.x _ (fun b1 w1 e1 ah _ U1 => ?_)
 have jJ : bp ≠ b1 := by have := aj ag; omega
 have gZ := ae.apart e1
 have bY : w.heap.size ≤ b1 := by have := hF.size; omega
 refine Z.x _ (fun b2 w2 e2 ay _ U2 => ?_)
 replace ag := U1.af ag
 have fF : bp ≠ b2 := by have := aj ag; omega
 replace ae := ae.ai U1
 have dN := ae.apart e2
 have mf : b1 ≠ b2 := by have := aj ah; omega
 replace hF := hF.go0 U1
 have fD : w.heap.size ≤ b2 := by have := hF.size; omega
 replace ah := U2.af ah
 refine Z.l ah ?_
 refine Z.l ay ?_
 replace ae := ae.ai U2
 replace ag := U2.af ag
 refine eF (oZ ag ae hn hN hb hcw (i := i)) (fun w3 U3 h3 => ?_) (fun w3 U3 h3 => ?_)
 refine ak (jE) ?_
 refine aH ?_
 replace ah := U3.af ah
 refine Z.l ah ?_
 replace ay := U3.af ay
 refine Z.l ay ?_
 replace hF := (hF.go0 U2).go0 U3
 replace ae := ae.ai U3
 replace ag := U3.af ag
 have hop : Gs.jI cs i = true := by assumption
 have hiC := Gs.J8 hop
 refine aA (sN ag ae hn hN hb hcw (i := i)) (fun w4 U4 => ?_)
 refine Z.e ?_
 refine Z.e ?_
 refine Z.n ((Gs.fv Gs.zf).toArray) (fun b5 w5 e5 cO _ U5 => ?_)
 replace ag := U4.af ag
 have jT : bp ≠ b5 := by have := aj ag; omega
 replace ae := ae.ai U4
 have jl := ae.apart e5
 replace ah := U4.af ah
 have ik : b1 ≠ b5 := by have := aj ah; omega
 replace ay := U4.af ay
 have nU : b2 ≠ b5 := by have := aj ay; omega
 replace hF := hF.go0 U4
 have iM : w.heap.size ≤ b5 := by have := hF.size; omega
 refine Z.t 3 ((Gs.fv (Gs.mX cs i)).toArray) (by (simp [Value.cells, Value.oneCell', Gs.cv, Gs.fv, Gs.ie]; done)) cO (fun w6 cO _ U6 => ?_)
 refine ak (BV _) ?_
 refine kL (fun h7 => ?_) (fun h7 => ?_)
 refine dV (S := no) (fun w8 U8 => ?_)
 replace ah := U8.af (U6.au (U5.af ah) ik)
 refine Z.m ah ?_
 replace ae := ((ae.ai U5).aF U6 jl).ai U8
 replace ag := U8.af (U6.au (U5.af ag) jT)
 replace ay := U8.af (U6.au (U5.af ay) nU)
 replace hF := ((hF.go0 U5).go1 U6 iM).go0 U8
 have hob : Gs.mD cs i = false := by cases hq : Gs.mD cs i <;> simp_all
 refine gQ (fun w' hw' => by have ag := hw'.af ag; have ae := ae.ai hw'; exact fH ag ae hn) ?_
 refine Z.m ay ?_
 refine bI (fun w' hw' => (yS _ (by omega))) ?_
 refine aJ (fun w10 aX => ?_)
 replace ah := aX.af ah
 refine Z.l ah ?_
 replace ay := aX.af ay
 refine Z.l ay ?_
 refine ak (bF (l := [(0, 1), (1, 1), (2, 1), (3, 1), (4, 1)]) (z := #[Z.u 0, .bool false, .bool false, Z.u 0, Z.u 0]) (cs := (Gs.cv Gs.zc)) (by kernel_rfl) (by rfl)) ?_
 replace ae := ae.ai aX
 replace ag := aX.af ag
 refine aI (J9 ag ae hn (i := i) (j := 0) (x := Gs.zc) hN) (fun v11 nT D11 => ?_)
 obtain ⟨rfl, N11, bD⟩ := D11
 have aN := ae
 replace ae := N11
 replace hF := hF.go0 aX
 replace hF := hF.go bD (fun i h hs => by exact hs)
 clear aN
 have hk1 : Gs.Kp cs (Gs.sQ cs (Gs.rH (Gs.aY r c) i 0) Gs.zc) := Gs.Kp.fill rfl hk0 (fun y hy => Gs.Vy hiC hob (by have := Gs.afE hy; omega))
 show mG [] _ _
 exact ⟨_, rfl, _, _, _, rfl, hW.fill _ Gs.DU, .inl ⟨rfl, hop, Gs.Mk.free hk1 hob⟩, ae, hF⟩
 refine Z.n (#[Z.i 0]) (fun b14 rF e14 dW _ bZ => ?_)
 replace ag := U6.au (U5.af ag) jT
 have wQ : bp ≠ b14 := by have := aj ag; omega
 replace ae := (ae.ai U5).aF U6 jl
 have uu := ae.apart e14
 replace ah := U6.au (U5.af ah) ik
 have wR : b1 ≠ b14 := by have := aj ah; omega
 replace ay := U6.au (U5.af ay) nU
 have wS : b2 ≠ b14 := by have := aj ay; omega
 have Sz : b5 ≠ b14 := by have := aj cO; omega
 replace hF := (hF.go0 U5).go1 U6 iM
 have pM : w.heap.size ≤ b14 := by have := hF.size; omega
 refine Z.s dW (fun ut dW _ bT => ?_)
 refine bQ (fun g w' => ∃ (D2 : Nat) (c1 : List Gs.Cell) (m : Int), (g 1000000 = mkV D2 undef) ∧ (w.heap.size ≤ D2) ∧ (w'.heap[D2]? = some (.deferred (some []))) ∧ (Gs.mD cs i = true) ∧ (Z.h w' b14 #[Z.i m] 3) ∧ (Z.h w' bp #[Z.i r, Z.i c, .slice A n cp, Z.i cur] 91) ∧ (Own B0 w' 37 5 (.slice A n cp) (rows Gs.cv c1)) ∧ (Gs.Kp cs c1) ∧ (Gs.Pw r c n c1 cur) ∧ (Z.h w' b1 #[Z.p bp] 33) ∧ (Z.h w' b2 #[Z.i i] 3) ∧ (aB (aG (.slice A n cp)) w w')) (fun J1 hJ1 => ?_) (fun gJ1 jY hI => ?_)
 replace ah := bT.au (bZ.af ah) wR
 refine Z.l ah ?_
 replace cO := bT.au (bZ.af cO) Sz
 refine Z.b 3 ((Gs.fv (Gs.mX cs i)).toArray) cO ?_
 replace ae := (ae.ai bZ).aF bT uu
 replace ag := bT.au (bZ.af ag) wQ
 replace ay := bT.au (bZ.af ay) wS
 replace hF := (hF.go0 bZ).go1 bT pM
 have hob : Gs.mD cs i = true := by cases hq : Gs.mD cs i <;> simp_all
 refine aI (Aw ag ae hn (f := Gs.mX cs i)) (fun v16 w16 D16 => ?_)
 obtain ⟨b1_34, b2_34, rfl, g1_34, g2_34, iH, iI, bU⟩ := D16
 have anA : bp ≠ b1_34 := by have := aj ag; omega
 have ajj : ∀ k, aG _ k → k ≠ b1_34 := fun k hk => by have := (Own.ge ae hk).2; omega
 have anB : b1 ≠ b1_34 := by have := aj ah; omega
 have anC : b2 ≠ b1_34 := by have := aj ay; omega
 have anD : b5 ≠ b1_34 := by have := aj cO; omega
 have Ko : b14 ≠ b1_34 := by have := aj dW; omega
 have aqJ : w.heap.size ≤ b1_34 := by have := hF.size; omega
 have anE : bp ≠ b2_34 := by have := aj ag; omega
 have ajk : ∀ k, aG _ k → k ≠ b2_34 := fun k hk => by have := (Own.ge ae hk).2; omega
 have anF : b1 ≠ b2_34 := by have := aj ah; omega
 have anG : b2 ≠ b2_34 := by have := aj ay; omega
 have anH : b5 ≠ b2_34 := by have := aj cO; omega
 have Kq : b14 ≠ b2_34 := by have := aj dW; omega
 have aqK : w.heap.size ≤ b2_34 := by have := hF.size; omega
 refine wL (by kernel_rfl) (fun vW l2 D2 Rdy2 Bsy2 Dn2 y2 eD el bz bC lp1 lp2 lp3 sz17 di hY => ?_)
 have lp2_2 := lp2
 replace ag := bU.af ag
 have VD : bp ≠ D2 := by have := aj ag; omega
 have iL : bp ≠ l2 := by have := aj ag; omega
 replace ae := ae.ai bU
 have ug : ∀ k, aG _ k → k ≠ D2 := fun k hk => by have := (Own.ge ae hk).2; omega
 have fB : ∀ k, aG _ k → k ≠ l2 := fun k hk => by have := (Own.ge ae hk).2; omega
 replace ah := bU.af ah
 have VE : b1 ≠ D2 := by have := aj ah; omega
 have iR : b1 ≠ l2 := by have := aj ah; omega
 replace ay := bU.af ay
 have uQ : b2 ≠ D2 := by have := aj ay; omega
 have gU : b2 ≠ l2 := by have := aj ay; omega
 replace cO := bU.af cO
 have aqL : b5 ≠ D2 := by have := aj cO; omega
 have aqM : b5 ≠ l2 := by have := aj cO; omega
 replace dW := bU.af dW
 have SA : b14 ≠ D2 := by have := aj dW; omega
 have uF : b14 ≠ l2 := by have := aj dW; omega
 have anI : b1_34 ≠ D2 := by have := aj iH; omega
 have vM : b1_34 ≠ l2 := by have := aj iH; omega
 have anJ : b2_34 ≠ D2 := by have := aj iI; omega
 have vN : b2_34 ≠ l2 := by have := aj iI; omega
 replace hF := hF.go0 bU
 have oK : w.heap.size ≤ D2 := by have := hF.size; omega
 have jR : w.heap.size ≤ l2 := by have := hF.size; omega
 have fK : D2 ≠ l2 := by omega
 replace ae := ae.ai di
 replace ag := di.af ag
 replace ah := di.af ah
 replace ay := di.af ay
 replace dW := di.af dW
 replace iH := di.af iH
 replace iI := di.af iI
 replace hF := hF.go0 di
 refine Calls.mono (MM (b1 := b1_34) (b2 := b2_34) (J := (fun (k : Nat) (w' : World) => ∃ (c1 : List Gs.Cell) (m : Int), (Z.h w' b14 #[Z.i m] 3) ∧ (Z.h w' bp #[Z.i r, Z.i c, .slice A n cp, Z.i cur] 91) ∧ (Own B0 w' 37 5 (.slice A n cp) (rows Gs.cv c1)) ∧ (Gs.Kp cs c1) ∧ (Gs.Pw r c n c1 cur) ∧ (Z.h w' b1 #[Z.p bp] 33) ∧ (Z.h w' b2 #[Z.i i] 3) ∧ (Z.h w' b1_34 #[Z.p bp] 33) ∧ (Z.h w' b2_34 ((Gs.fv (Gs.mX cs i)).toArray) 173) ∧ (w'.heap[D2]? = some (.deferred (some []))) ∧ (w'.heap[l2]? = some Rdy2) ∧ (aB (aG (.slice A n cp)) w w'))) (X := (fun _ => False)) (fun _ w' hJ => by obtain ⟨c1, m, dW, ag, ae, hk1, hW1, ah, ay, iH, iI, bz, bC, hF⟩ := hJ; exact ⟨iH, iI, ag, _, hW1.1, ae⟩) (fun _ w' w'' hJ U' => by obtain ⟨c1, m, dW, ag, ae, hk1, hW1, ah, ay, iH, iI, bz, bC, hF⟩ := hJ; exact ⟨c1, m, U'.af dW, U'.af ag, ae.ai U', hk1, hW1, U'.af ah, U'.af ay, U'.af iH, U'.af iI, U'.af bz, U'.af bC, hF.go0 U'⟩) (fun _ _ h _ => h.elim) hN hb ?_ ?_) ?_
 intro k qW xk hx hI
 obtain ⟨c1, m, dW, ag, ae, hk1, hW1, ah, ay, iH, iI, bz, bC, hF⟩ := hI
 have hk := (List.getElem?_eq_some_iff.1 hx).1
 refine hY [Z.i xk] _ _ rfl bC ?_
 simp only [List.getD_cons_zero, List.getD_cons_succ]
 refine zu bC (fun xY bC _ dR => ?_)
 replace ae := ae.aF dR (by assumption)
 replace ay := dR.au ay gU
 refine Z.l ay ?_
 refine az (dh _ _ _ _ _) (fun h19 => ?_) (fun h19 => ?_)
 refine bg (bg (aU (aK ?_)))
 replace ah := dR.au ah iR
 refine Z.l ah ?_
 refine ak (bF (l := [(0, 1), (1, 1), (2, 1), (3, 1), (4, 1)]) (z := #[Z.u 0, .bool false, .bool false, Z.u 0, Z.u 0]) (cs := (Gs.cv Gs.zc)) (by kernel_rfl) (by rfl)) ?_
 replace ag := dR.au ag iL
 refine aI (jZ ag ae hW1.1 (i := xk) (x := Gs.zc)) (fun v20 xM D20 => ?_)
 obtain ⟨rfl, N20, dF⟩ := D20
 have aN := ae
 replace dW := dR.au dW uF
 replace dW := dF.get dW (fun h => Own.aT aN dW (by decide) _ h rfl)
 replace ag := dF.get ag (fun h => Own.aT aN ag (by decide) _ h rfl)
 replace ae := N20
 replace ah := dF.get ah (fun h => Own.aT aN ah (by decide) _ h rfl)
 replace ay := dF.get ay (fun h => Own.aT aN ay (by decide) _ h rfl)
 replace iH := dR.au iH vM
 replace iH := dF.get iH (fun h => Own.aT aN iH (by decide) _ h rfl)
 replace iI := dR.au iI vN
 replace iI := dF.get iI (fun h => Own.aT aN iI (by decide) _ h rfl)
 replace bz := dR.au bz fK
 replace bz := dF.get bz (fun h => Own.lV aN bz _ h rfl)
 replace hF := hF.go1 dR jR
 replace bC := dF.get bC (fun h => Own.jd aN bC (by assumption) _ h rfl)
 replace hF := hF.go dF (fun i h hs => by exact hs)
 clear aN
 refine Z.l dW ?_
 refine ak (Kr _ _ _ _) ?_
 refine Z.s dW (fun Cj dW _ dH => ?_)
 replace ae := ae.aF dH (by assumption)
 replace bC := dH.au bC (Ne.symm uF)
 refine uO bC (fun Gq bC _ eQ => ?_)
 replace ag := dH.au ag wQ
 replace ah := dH.au ah wR
 replace ay := dH.au ay wS
 replace iH := dH.au iH (Ne.symm Ko)
 replace iI := dH.au iI (Ne.symm Kq)
 replace bz := dH.au bz (Ne.symm SA)
 replace hF := hF.go1 dH pM
 replace ae := ae.aF eQ (by assumption)
 replace dW := eQ.au dW uF
 replace ag := eQ.au ag iL
 replace ah := eQ.au ah iR
 replace ay := eQ.au ay gU
 replace iH := eQ.au iH vM
 replace iI := eQ.au iI vN
 replace bz := eQ.au bz fK
 replace hF := hF.go1 eQ jR
 exact ⟨_, _, dW, ag, ae, (by exact hk1.set (Gs.row_in hiC hob (by rw [← hn]; exact hx)).2 rfl), (by exact hW1.set _ Gs.DU), ah, ay, iH, iI, bz, bC, hF⟩
 refine aW ?_
 replace dW := dR.au dW uF
 refine Z.l dW ?_
 refine aW ?_
 refine az (gtr _ _ _ _) (fun h23 => ?_) (fun h23 => ?_)
 refine aQ (aK ?_)
 replace ah := dR.au ah iR
 refine Z.l ah ?_
 refine ak (bF (l := [(0, 1), (1, 1), (2, 1), (3, 1), (4, 1)]) (z := #[Z.u 0, .bool false, .bool false, Z.u 0, Z.u 0]) (cs := (Gs.cv Gs.zc)) (by kernel_rfl) (by rfl)) ?_
 replace ag := dR.au ag iL
 refine aI (jZ ag ae hW1.1 (i := xk) (x := Gs.zc)) (fun v24 UN D24 => ?_)
 obtain ⟨rfl, N24, kD⟩ := D24
 have aN := ae
 replace dW := kD.get dW (fun h => Own.aT aN dW (by decide) _ h rfl)
 replace ag := kD.get ag (fun h => Own.aT aN ag (by decide) _ h rfl)
 replace ae := N24
 replace ah := kD.get ah (fun h => Own.aT aN ah (by decide) _ h rfl)
 replace ay := kD.get ay (fun h => Own.aT aN ay (by decide) _ h rfl)
 replace iH := dR.au iH vM
 replace iH := kD.get iH (fun h => Own.aT aN iH (by decide) _ h rfl)
 replace iI := dR.au iI vN
 replace iI := kD.get iI (fun h => Own.aT aN iI (by decide) _ h rfl)
 replace bz := dR.au bz fK
 replace bz := kD.get bz (fun h => Own.lV aN bz _ h rfl)
 replace hF := hF.go1 dR jR
 replace bC := kD.get bC (fun h => Own.jd aN bC (by assumption) _ h rfl)
 replace hF := hF.go kD (fun i h hs => by exact hs)
 clear aN
 refine Z.l dW ?_
 refine ak (Kr _ _ _ _) ?_
 refine Z.s dW (fun JC dW _ iq => ?_)
 replace ae := ae.aF iq (by assumption)
 replace bC := iq.au bC (Ne.symm uF)
 refine uO bC (fun Pg bC _ jm => ?_)
 replace ag := iq.au ag wQ
 replace ah := iq.au ah wR
 replace ay := iq.au ay wS
 replace iH := iq.au iH (Ne.symm Ko)
 replace iI := iq.au iI (Ne.symm Kq)
 replace bz := iq.au bz (Ne.symm SA)
 replace hF := hF.go1 iq pM
 replace ae := ae.aF jm (by assumption)
 replace dW := jm.au dW uF
 replace ag := jm.au ag iL
 replace ah := jm.au ah iR
 replace ay := jm.au ay gU
 replace iH := jm.au iH vM
 replace iI := jm.au iI vN
 replace bz := jm.au bz fK
 replace hF := hF.go1 jm jR
 exact ⟨_, _, dW, ag, ae, (by exact hk1.set (Gs.row_in hiC hob (by rw [← hn]; exact hx)).2 rfl), (by exact hW1.set _ Gs.DU), ah, ay, iH, iI, bz, bC, hF⟩
 refine aQ (aH ?_)
 refine uO bC (fun MV bC _ iw => ?_)
 replace ag := dR.au ag iL
 replace ah := dR.au ah iR
 replace iH := dR.au iH vM
 replace iI := dR.au iI vN
 replace bz := dR.au bz fK
 replace hF := hF.go1 dR jR
 replace ae := ae.aF iw (by assumption)
 replace dW := iw.au dW uF
 replace ag := iw.au ag iL
 replace ah := iw.au ah iR
 replace ay := iw.au ay gU
 replace iH := iw.au iH vM
 replace iI := iw.au iI vN
 replace bz := iw.au bz fK
 replace hF := hF.go1 iw jR
 exact ⟨_, _, dW, ag, ae, (by exact hk1), (by exact hW1), ah, ay, iH, iI, bz, bC, hF⟩
 exact ⟨cs, 0, dW, ag, ae, hk0, hW, ah, ay, iH, iI, bz, bC, hF⟩
 rintro e wE2 ⟨hv, hI | hI⟩
 obtain ⟨c1, m, dW, ag, ae, hk1, hW1, ah, ay, iH, iI, bz, bC, hF⟩ := hI
 refine ⟨hv, .inl ⟨bC, fun Vw _ jC => ?_⟩⟩
 replace ae := ae.aF jC (by assumption)
 refine hJ1 _ _ ?_
 replace dW := jC.au dW uF
 replace ag := jC.au ag iL
 replace ah := jC.au ah iR
 replace ay := jC.au ay gU
 replace bz := jC.au bz fK
 replace hF := hF.go1 jC jR
 exact ⟨_, _, _, (by rfl), oK, bz, hob, dW, ag, ae, hk1, hW1, ah, ay, hF⟩
 exact hI.elim
 replace ae := (ae.ai bZ).aF bT uu
 replace ag := bT.au (bZ.af ag) wQ
 replace ah := bT.au (bZ.af ah) wR
 replace ay := bT.au (bZ.af ay) wS
 replace hF := (hF.go0 bZ).go1 bT pM
 obtain ⟨D2, c1, m, g1000000, oK, bz, hob, dW, ag, ae, hk1, hW1, ah, ay, hF⟩ := hI
 rw [g1000000]
 refine dV (S := aG ((.slice A n cp))) (fun Ve kK => ?_)
 replace dW := kK.af dW
 refine bI (fun w' hw' => by have dW := hw'.get dW (fun h => uu _ h rfl); exact (kH (by kernel_rfl) dW (by rfl))) ?_
 replace ah := kK.af ah
 refine bI (fun w' hw' => by have ah := (Fr.jq hw').af ah; exact (kH (by kernel_rfl) ah (by rfl))) ?_
 replace ay := kK.af ay
 refine bI (fun w' hw' => by have ay := (Fr.jq hw').af ay; exact (kH (by kernel_rfl) ay (by rfl))) ?_
 refine aJ (fun w30 qX => ?_)
 refine jy ?_
 replace ae := (ae.ai kK).ai qX
 replace ag := qX.af (kK.af ag)
 refine aI (wP ag ae hW1.1 hN hb hW1.2.1 (i := i)) (fun v31 w31 D31 => ?_)
 obtain ⟨rfl, N31, qh⟩ := D31
 have aN := ae
 replace bz := qX.af (kK.af bz)
 replace bz := qh.get bz (fun h => Own.lV aN bz _ h rfl)
 replace ae := N31
 replace hF := (hF.go0 kK).go0 qX
 replace hF := hF.go qh (fun i h hs => by exact hs)
 clear aN
 refine ⟨qh, ?_⟩
 refine aJ (fun w32 mO => ?_)
 replace bz := mO.af bz
 refine leave1 bz (fun YJ _ pI => ?_)
 replace cO := bT.au (bZ.af cO) Sz
 replace ae := ae.ai mO
 replace hF := hF.go0 mO
 replace ae := ae.aF pI (Own.lV ae (by assumption))
 replace hF := hF.go1 pI oK
 exact ⟨_, rfl, _, _, _, rfl, hW1.mark i, .inl ⟨decide_eq_true (by rw [hk1.VF]; exact (Gs.aaJ hob).1), hop, _, hk1, rfl⟩, ae, hF⟩
 refine ak (mY) ?_
 refine aK ?_
 show mG [] _ _
 replace hF := (hF.go0 U2).go0 U3
 replace ae := ae.ai U3
 exact ⟨_, rfl, _, _, _, rfl, hW, .inr ⟨rfl, rfl⟩, ae, hF⟩
theorem VG {r c cur : Int} {A : Option Addr} {n cp bp B0 : Nat} {cs : List Gs.Cell} {w : World} (ag : Z.h w bp #[Z.i r, Z.i c, .slice A n cp, Z.i cur] 91) (ae : Own B0 w 37 5 (.slice A n cp) (rows Gs.cv cs)) (hW : Gs.Pw r c n cs cur)  :
    oX 89 #[Z.p bp] w fun e w' => ∃ v, e = .returned v ∧ ∃ (q : Int) (c1 : List Gs.Cell) (cur1 : Int), v = Z.i q ∧ Gs.Pw r c n c1 cur1 ∧ ((q = 0 ∧ Gs.jI cs cur = true ∧ Gs.Mk cs c1 cur) ∨ (q ≠ 0 ∧ c1 = cs ∧ cur1 = cur)) ∧ Z.h w' bp #[Z.i r, Z.i c, .slice A n cp, Z.i cur1] 91 ∧ Own B0 w' 37 5 (.slice A n cp) (rows Gs.cv c1) ∧ aB (fun k => aG (.slice A n cp) k ∨ k = bp) w w' := by
 refine F89.calls ?_
 unfold F89
 obtain ⟨hn, hcw, hcu, hp, hN, hb⟩ := id hW; have hrc := hW.rc
 have hF : aB (fun k => aG (.slice A n cp) k ∨ k = bp) w w := Fr.refl _ _ _
 refine aA (ed ag ae hn) (fun w1 U1 => ?_)
 replace ae := ae.ai U1
 replace ag := U1.af ag
 refine aI (Yd ag ae hW (i := cur)) (fun v2 w2 D2 => ?_)
 obtain ⟨k9, q9, c1, rfl, hW1, hm9, N2, U2⟩ := D2
 have aN := ae
 replace ag := U2.get ag (fun h => Own.aT aN ag (by decide) _ h rfl)
 replace ae := N2
 replace hF := hF.go0 U1
 replace hF := hF.go U2 (fun i h hs => .inl hs)
 clear aN
 refine Z.e ?_
 refine Z.e ?_
 refine ak (BV _) ?_
 refine kL (fun h3 => ?_) (fun h3 => ?_)
 rcases hm9 with ⟨hq, ho, hm⟩ | ⟨hq, hc⟩ <;> subst hq <;> first | exact ⟨_, rfl, _, _, _, rfl, hW1, .inr ⟨by decide, hc, rfl⟩, ag, ae, hF⟩ | (exfalso; simp_all; done)
 rcases hm9 with ⟨hq, ho, hm⟩ | ⟨hq, hc⟩ <;> subst hq <;> first | exact ⟨_, rfl, _, _, _, rfl, hW1, .inl ⟨rfl, ho, hm⟩, ag, ae, hF⟩ | (exfalso; simp_all; done)
theorem VH {r c cur : Int} {A : Option Addr} {n cp bp B0 : Nat} {cs : List Gs.Cell} {w : World} (ag : Z.h w bp #[Z.i r, Z.i c, .slice A n cp, Z.i cur] 91) (ae : Own B0 w 37 5 (.slice A n cp) (rows Gs.cv cs)) (hW : Gs.Pw r c n cs cur) {ins : Bool} :
    oX 92 #[Z.p bp, .bool ins] w fun e w' => ∃ v, e = .returned v ∧ ∃ (q : Int) (c1 : List Gs.Cell) (cur1 : Int), v = Z.i q ∧ Gs.Pw r c n c1 cur1 ∧ ((q = 0 ∧ Gs.jI cs cur = true ∧ Gs.Mk cs c1 cur) ∨ (q ≠ 0 ∧ c1 = cs ∧ cur1 = cur)) ∧ Z.h w' bp #[Z.i r, Z.i c, .slice A n cp, Z.i cur1] 91 ∧ Own B0 w' 37 5 (.slice A n cp) (rows Gs.cv c1) ∧ aB (fun k => aG (.slice A n cp) k ∨ k = bp) w w' := by
 refine F92.calls ?_
 unfold F92
 obtain ⟨hn, hcw, hcu, hp, hN, hb⟩ := id hW; have hrc := hW.rc
 have hF : aB (fun k => aG (.slice A n cp) k ∨ k = bp) w w := Fr.refl _ _ _
 refine aA (ed ag ae hn) (fun w1 U1 => ?_)
 replace ae := ae.ai U1
 replace ag := U1.af ag
 refine aI (DT ag ae hW (x := 28) (ins := ins) (by decide)) (fun v2 w2 D2 => ?_)
 obtain ⟨e11, c1, cur1, rfl, hW1, hm11, M2, N2, U2⟩ := D2
 replace ae := N2
 replace ag := M2
 replace hF := hF.go0 U1
 replace hF := hF.go U2 (fun i h hs => Or.elim (show aG _ _ ∨ _ = _ from hs) (fun hs => .inl hs) (fun hb => by (subst hb; omega)))
 refine az (jO _ _ _ _ _) (fun h3 => ?_) (fun h3 => ?_)
 refine aK ?_
 rcases hm11 with ⟨hq, ho, hm⟩ | ⟨hq, hc, hu⟩ <;> first | exact ⟨_, rfl, _, _, _, rfl, hW1, .inr ⟨hq, hc, hu⟩, ag, ae, hF⟩ | (exfalso; simp_all; done)
 refine aH ?_
 have hn1 := hW1.1
 refine aI (vw ag ae hW1.1 (i := cur)) (fun v5 w5 D5 => ?_)
 obtain ⟨rfl, N5, U5⟩ := D5
 replace ae := ae.aF U5 (Own.aT ae (by assumption) (by decide))
 replace ag := N5
 replace hF := hF.go U5 (fun i _ h => .inr h)
 rw [if_pos (by omega)] at ag
 refine aI (FO ag ae (hW1.at hcu)) (fun v6 w6 D6 => ?_)
 obtain ⟨cur2, rfl, hW2, N6, U6⟩ := D6
 replace ae := ae.aF U6 (Own.aT ae (by assumption) (by decide))
 replace ag := N6
 replace hF := hF.go U6 (fun i _ h => .inr h)
 rcases hm11 with ⟨hq, ho, hm⟩ | ⟨hq, hc, hu⟩ <;> first | exact ⟨_, rfl, _, _, _, rfl, hW2, .inl ⟨rfl, ho, hm⟩, ag, ae, hF⟩ | (exfalso; simp_all; done)
theorem Uf {r c cur : Int} {A : Option Addr} {n cp bp B0 : Nat} {cs : List Gs.Cell} {w : World} (ag : Z.h w bp #[Z.i r, Z.i c, .slice A n cp, Z.i cur] 91) (ae : Own B0 w 37 5 (.slice A n cp) (rows Gs.cv cs)) (hW : Gs.Pw r c n cs cur) {ins : Bool} :
    oX 93 #[Z.p bp, .bool ins] w fun e w' => ∃ v, e = .returned v ∧ ∃ (q : Int) (c1 : List Gs.Cell) (cur1 : Int), v = Z.i q ∧ Gs.Pw r c n c1 cur1 ∧ ((q = 0 ∧ Gs.jI cs cur = true ∧ Gs.Mk cs c1 cur) ∨ (q ≠ 0 ∧ c1 = cs ∧ cur1 = cur)) ∧ Z.h w' bp #[Z.i r, Z.i c, .slice A n cp, Z.i cur1] 91 ∧ Own B0 w' 37 5 (.slice A n cp) (rows Gs.cv c1) ∧ aB (fun k => aG (.slice A n cp) k ∨ k = bp) w w' := by
 refine F93.calls ?_
 unfold F93
 obtain ⟨hn, hcw, hcu, hp, hN, hb⟩ := id hW; have hrc := hW.rc
 have hF : aB (fun k => aG (.slice A n cp) k ∨ k = bp) w w := Fr.refl _ _ _
 refine aI (DT ag ae hW (x := 30) (ins := ins) (by decide)) (fun v1 w1 D1 => ?_)
 obtain ⟨e7, c1, cur1, rfl, hW1, hm7, M1, N1, U1⟩ := D1
 replace ae := N1
 replace ag := M1
 replace hF := hF.go U1 (fun i h hs => Or.elim (show aG _ _ ∨ _ = _ from hs) (fun hs => .inl hs) (fun hb => by (subst hb; omega)))
 exact ⟨_, rfl, _, _, _, rfl, hW1, hm7, ag, ae, hF⟩
end Go.Proofs.YtjdoakbadehicaaGreatDoor
end
section
namespace Gs
open Go Go.Sh
structure Pr where
 t : Int
 v : Int
deriving DecidableEq
def pe (x : Pr) : List Value := [.int .u8 x.t, .int .u8 x.v]
theorem C9 : Enc pe 2 := ⟨fun _ => rfl, fun a u hu => by
 simp only [pe, List.mem_cons, List.mem_nil_iff, or_false] at hu
 rcases hu with rfl | rfl <;> rfl, by decide⟩
def zpr : Pr := ⟨0, 0⟩
def Zd (x : Pr) : Prop := (0 ≤ x.t ∧ x.t ≤ 255) ∧ (0 ≤ x.v ∧ x.v ≤ 255)
structure jc where
 k : Int
 a : Int
 b : Int
 ge : Bool
 pA : Option Addr
 pc : Nat
 ps : List Pr
 dA : Option Addr
 dc : Nat
 ds : List Int
def oe (x : jc) : List Value := [.int .u8 x.k, .int .i64 x.a, .int .u8 x.b, .bool x.ge, .slice x.pA x.ps.length x.pc, .slice x.dA x.ds.length x.dc]
theorem CQ : Enc oe 6 := ⟨fun _ => rfl, fun a u hu => by
 simp only [oe, List.mem_cons, List.mem_nil_iff, or_false] at hu
 rcases hu with rfl | rfl | rfl | rfl | rfl | rfl <;> rfl, by decide⟩
def Ai (x : jc) : Prop := (0 ≤ x.k ∧ x.k ≤ 255) ∧ (0 ≤ x.b ∧ x.b ≤ 255) ∧ Bs x.ds ∧ ∀ p ∈ x.ps, Zd p
def DL (l : List jc) : Prop := ∀ x ∈ l, Ai x
theorem DL.get {l : List jc} (h : DL l) {k : Nat} {x : jc} (hx : l[k]? = some x) : Ai x := h x (List.mem_of_getElem? hx)
theorem DL.snoc {l : List jc} (h : DL l) {x : jc} (hx : Ai x) : DL (l ++ [x]) := fun y hy => by
 rcases List.mem_append.1 hy with hy | hy
 ·exact h y hy
 ·rw [List.mem_singleton.1 hy]; exact hx
def kR (w : World) (l : List jc) : Prop := ∀ x ∈ l, Rd w x.pA (rows pe x.ps) ∧ Rd w x.dA (vals .u8 x.ds)
def jP (l : List jc) (k : Nat) : Prop := ∃ x ∈ l, (x.ps ≠ [] ∧ fC x.pA k) ∨ (x.ds ≠ [] ∧ fC x.dA k)
def Zp (l : List jc) (B : Nat) : Prop := l = [] ∨ ∀ k, jP l k → k < B
theorem Zp.ne {l : List jc} {B : Nat} (h : Zp l B) {b : Nat} (hb : B ≤ b) : l = [] ∨ ∀ k, jP l k → k ≠ b := h.imp_right fun h k hk => by have := h k hk; omega
theorem Zp.mono {l : List jc} {B B' : Nat} (h : Zp l B) (hb : B ≤ B') : Zp l B' := h.imp_right fun h k hk => by have := h k hk; omega
theorem aoF {cs : List Pr} (h : cs ≠ []) : rows pe cs ≠ [] := fun e => by
 have := congrArg List.length e
 rw [iQ C9] at this
 cases cs
 ·exact h rfl
 ·simp at this
theorem kR.lt {w : World} {l : List jc} (h : kR w l) : Zp l w.heap.size := by
 refine .inr fun k ⟨x, hx, hk⟩ => ?_
 rcases hk with ⟨hne, hk⟩ | ⟨hne, hk⟩
 ·rcases (h x hx).1.lt with h2 | h2
  ·exact absurd h2 (aoF hne)
  ·exact h2 k hk
 ·rcases (h x hx).2.lt with h2 | h2
  ·exact absurd (List.map_eq_nil_iff.1 h2) hne
  ·exact h2 k hk
theorem kR.dO {S : Nat → Prop} {w w' : World} {l : List jc} (h : kR w l) (u : aB S w w') (hs : l = [] ∨ ∀ k, jP l k → ¬ S k) : kR w' l := by
 intro x hx
 rcases hs with rfl | hs
 ·cases hx
 ·constructor
  ·refine (h x hx).1.dO u ?_
   by_cases hc : x.ps = []
   ·left; rw [hc]; rfl
   ·right; exact fun k hk => hs k ⟨x, hx, .inl ⟨hc, hk⟩⟩
  ·refine (h x hx).2.dO u ?_
   by_cases hc : x.ds = []
   ·left; rw [hc]; rfl
   ·right; exact fun k hk => hs k ⟨x, hx, .inr ⟨hc, hk⟩⟩
theorem kR.ai {w w' : World} {l : List jc} (h : kR w l) (u : aB no w w') : kR w' l := h.dO u (.inr fun _ _ => id)
theorem kR.aF {w w' : World} {l : List jc} {b : Nat} (h : kR w l) (u : aB (· = b) w w') (hs : l = [] ∨ ∀ k, jP l k → k ≠ b) : kR w' l := h.dO u hs
theorem kR.apart {w : World} {l : List jc} (h : kR w l) {b : Nat} (hb : b = w.heap.size) : l = [] ∨ ∀ k, jP l k → k ≠ b := h.lt.ne (by omega)
theorem kR.get {w : World} {l : List jc} (h : kR w l) {k : Nat} {x : jc} (hx : l[k]? = some x) : kR w [x] := fun y hy => by
 cases List.mem_singleton.1 hy; exact h x (List.mem_of_getElem? hx)
theorem kR.nil (w : World) : kR w [] := fun x hx => by cases hx
theorem kR.one {w : World} {x : jc} (h : Rd w x.pA (rows pe x.ps)) (k : Rd w x.dA (vals .u8 x.ds)) : kR w [x] := fun y hy => by
 cases List.mem_singleton.1 hy; exact ⟨h, k⟩
theorem kR.p {w : World} {x : jc} (h : kR w [x]) : Rd w x.pA (rows pe x.ps) := (h x (List.mem_cons_self ..)).1
theorem kR.d {w : World} {x : jc} (h : kR w [x]) : Rd w x.dA (vals .u8 x.ds) := (h x (List.mem_cons_self ..)).2
theorem kR.snoc {w : World} {l : List jc} {x : jc} (h : kR w l) (hx : kR w [x]) : kR w (l ++ [x]) := fun y hy => by
 rcases List.mem_append.1 hy with hy | hy
 ·exact h y hy
 ·exact hx y hy
theorem Xk {l : List jc} {x : jc} {k : Nat} (h : jP (l ++ [x]) k) : jP l k ∨ jP [x] k := by
 obtain ⟨y, hy, h⟩ := h
 rcases List.mem_append.1 hy with hy | hy
 ·exact .inl ⟨y, hy, h⟩
 ·exact .inr ⟨y, hy, h⟩
theorem akn {l : List jc} {x : jc} {i k : Nat} (hx : l[i]? = some x) (h : jP [x] k) : jP l k := by
 obtain ⟨y, hy, h⟩ := h
 cases List.mem_singleton.1 hy
 exact ⟨x, List.mem_of_getElem? hx, h⟩
theorem amS {S' : World} {v v' : Value} {l : List jc} (old : l = [] ∨ ∀ k, jP l k → ¬ aG v k) (lt : kR S' l) (hA : ∀ k, aG v' k → aG v k ∨ S'.heap.size ≤ k) : l = [] ∨ ∀ k, jP l k → ¬ aG v' k := by
 rcases old with h | h
 ·exact .inl h
 ·rcases lt.lt with h2 | h2
  ·exact .inl h2
  ·refine .inr fun k hk ho => ?_
   rcases hA k ho with h3 | h3
   ·exact h k hk h3
   ·have := h2 k hk; omega
end Gs
namespace Go.Sh
open Go Gs
def oW (T B : Nat) (w : World) (br : Nat) (bs : List Int) (at' : Nat) : Prop :=
 ∃ A c, w.heap[br]? = some (.cells #[.slice A bs.length c, .int .i64 at'] T (0, 0)) ∧ Rd w A (vals .u8 bs) ∧ bs.length ≤ c ∧ Bs bs ∧ br < B ∧ at' ≤ bs.length ∧ (bs = [] ∨ ∀ k, fC A k → k < B ∧ k ≠ br)
theorem oW.lt {T B : Nat} {w : World} {br at' : Nat} {bs : List Int} (h : oW T B w br bs at') : br < B := by obtain ⟨A, c, _, _, _, _, h, _⟩ := h; exact h
theorem oW.bs {T B : Nat} {w : World} {br at' : Nat} {bs : List Int} (h : oW T B w br bs at') : Bs bs := by obtain ⟨A, c, _, _, _, h, _⟩ := h; exact h
theorem oW.le {T B : Nat} {w : World} {br at' : Nat} {bs : List Int} (h : oW T B w br bs at') : at' ≤ bs.length := by obtain ⟨A, c, _, _, _, _, _, h, _⟩ := h; exact h
theorem oW.upd {T B : Nat} {w : World} {br at' : Nat} {bs : List Int} {S : Nat → Prop} {w' : World} (h : oW T B w br bs at') (u : aB S w w') (hS : ∀ k, k < B → ¬ S k) : oW T B w' br bs at' := by
 obtain ⟨A, c, h1, h2, h3, h4, h5, h6, h7⟩ := h
 refine ⟨A, c, u.get h1 (hS _ h5), h2.dO u ?_, h3, h4, h5, h6, h7⟩
 exact h7.imp (fun e => by rw [e]; rfl) (fun h k hk => hS k (h k hk).1)
theorem oW.ai {T B : Nat} {w : World} {br at' : Nat} {bs : List Int} {w' : World} (h : oW T B w br bs at') (u : aB no w w') : oW T B w' br bs at' := h.upd u (fun _ _ h => h)
end Go.Sh
namespace Go.Sh
open Go Gs
def prA (w : World) (br : Nat) : Nat := match w.heap[br]? with | some (.cells cs _ _) => (match cs.toList with | _ :: Value.int _ x :: _ => x.toNat | _ => 0) | _ => 0
theorem Qe {w : World} {br T at' : Nat} {v : Value} {f : Nat × Nat} (h : w.heap[br]? = some (.cells #[v, .int .i64 (at' : Int)] T f)) : prA w br = at' := by
 unfold prA; rw [h]; simp
end Go.Sh
namespace Gs
open Go Go.Sh
def cu (k a b : Int) (ge : Bool) : jc := ⟨k, a, b, ge, none, 0, [], none, 0, []⟩
theorem KU {k a b : Int} {ge : Bool} (hk : 0 ≤ k ∧ k ≤ 255) (hb : 0 ≤ b ∧ b ≤ 255) : Ai (cu k a b ge) := ⟨hk, hb, (by intro x h; cases h), (by intro x h; cases h)⟩
def OD (k : Int) (A : Option Addr) (c : Nat) (l : List Pr) : jc := ⟨k, 0, 0, false, A, c, l, none, 0, []⟩
theorem aex {k : Int} {A : Option Addr} {c : Nat} {l : List Pr} (hk : 0 ≤ k ∧ k ≤ 255) (h : ∀ p ∈ l, Zd p) : Ai (OD k A c l) := ⟨hk, (by show 0 ≤ (0 : Int) ∧ (0 : Int) ≤ 255; decide), (by intro x h; cases h), h⟩
def Rt (A : Option Addr) (c : Nat) (l : List Int) : jc := ⟨0, 0, 0, false, none, 0, [], A, c, l⟩
theorem amI {A : Option Addr} {c : Nat} {l : List Int} (h : Bs l) : Ai (Rt A c l) := ⟨(by show 0 ≤ (0 : Int) ∧ (0 : Int) ≤ 255; decide), (by show 0 ≤ (0 : Int) ∧ (0 : Int) ≤ 255; decide), h, (by intro x h; cases h)⟩
end Gs
namespace Go.Sh
open Go
variable {P : Program} {w : World} {T : World → World → Prop} {Q : Value → Prop}
theorem aj9 {t n cap : Nat} {A : Option Addr} {xs : List Int} {k k1 k2 : IntKind} {lo hi : Int} (ht : yR P t = some 1) (hr : Rd w A (vals k xs)) (hl : n = xs.length) (h0 : 0 ≤ lo) (h1 : lo ≤ hi) (h2 : hi ≤ n) (hc : n ≤ cap)
  (h : ∀ A' c', Rd w A' (vals k ((xs.drop lo.toNat).take (hi.toNat - lo.toNat))) → Q (.slice A' (hi.toNat - lo.toNat) c')) :
  bJ T w (fun w K => bi ((Instr.sliceAt t (.slice A n cap) (some (.int k1 lo)) (some (.int k2 hi)) none).run P w) aZ K) Q := by
 unfold yR at ht
 split at ht
 ·rename_i e hu
  have hel : P.elem t = e := by simp [Program.elem, hu]
  have hu' : P.underlying t = some (.slice (P.elem t)) := by rw [hel]; exact hu
  refine bI (v := sliced A lo.toNat hi.toNat cap 1) (fun w' _ => ?_) (h _ _ ?_)
  ·have hr1 := run_slice_lh (P := P) w' t A n cap hu' k1 k2 lo hi h0 h1 (by omega)
   rw [sK (P := P) (w := w') (by rw [hel]; exact ht)] at hr1
   have hr2 := run_sliceAt_slice (P := P) w' t (.slice A n cap) (some (.int k1 lo)) (some (.int k2 hi)) none hu'
   rw [hr1] at hr2
   exact hr2
  subst hl
  by_cases he : cap = lo.toNat
  ·have : lo.toNat = xs.length := by omega
   left
   simp [vals, this]
  ·rw [if_neg he]
   cases A with
   | none =>
    rcases hr with hx | ⟨a, ha, _⟩
    ·have := congrArg List.length hx; rw [vals_length] at this; simp at this; subst this; left; simp [vals]
    ·cases ha
   | some a =>
    have := (hr.drop lo.toNat).take (hi.toNat - lo.toNat)
    rw [Nat.mul_one]
    simpa [vals, List.map_drop, List.map_take] using this
 ·cases ht
end Go.Sh
namespace Go.Sh
open Go Gs
theorem Xl {B e s : Nat} {w : World} {v v' : Value} {xs : List Value} (h : Own B w e s v xs) (q : v' = v) : Own B w e s v' xs := q ▸ h
theorem G7 {A : Option Addr} {n c k : Nat} (h : fC A k) : aG (.slice A n c) k := by obtain ⟨a, rfl, rfl⟩ := h; rfl
theorem akm {S : Nat → Prop} {os : List jc} {x : jc} (h : os = [] ∨ ∀ k, jP os k → ¬ S k) (hP : ∀ k, aG (.slice x.pA x.ps.length x.pc) k → ¬ S k) (hD : ∀ k, aG (.slice x.dA x.ds.length x.dc) k → ¬ S k) :
  os ++ [x] = [] ∨ ∀ k, jP (os ++ [x]) k → ¬ S k := by
 refine .inr fun k hk => ?_
 rcases Xk hk with hk | ⟨y, hy, hk⟩
 ·rcases h with rfl | h
  ·obtain ⟨y, hy, _⟩ := hk; cases hy
  ·exact h k hk
 ·cases List.mem_singleton.1 hy
  rcases hk with ⟨_, hk⟩ | ⟨_, hk⟩
  ·exact hP k (G7 hk)
  ·exact hD k (G7 hk)
theorem akl {B e1 e2 s1 s2 : Nat} {w : World} {x : jc} {l1 l2 : List Value} (hP : Own B w e1 s1 (.slice x.pA x.ps.length x.pc) l1) (hD : Own B w e2 s2 (.slice x.dA x.ds.length x.dc) l2) {k : Nat} (h : jP [x] k) : B ≤ k := by
 obtain ⟨y, hy, hk⟩ := h
 cases List.mem_singleton.1 hy
 rcases hk with ⟨_, hk⟩ | ⟨_, hk⟩
 ·exact (hP.MQ k hk).1
 ·exact (hD.MQ k hk).1
end Go.Sh
end
section
namespace Gs
open Go Go.Sh
structure iK where
 k : Int
 a : Int
 b : Int
 ge : Bool
 ps : List Pr
 ds : List Int
deriving DecidableEq
def jc.m (x : jc) : iK := ⟨x.k, x.a, x.b, x.ge, x.ps, x.ds⟩
def xN (l : List jc) : List iK := l.map jc.m
theorem agA (l : List jc) (x : jc) : xN (l ++ [x]) = xN l ++ [x.m] := by unfold xN; rw [List.map_append]; rfl
theorem Zh (l : List jc) : (xN l).length = l.length := List.length_map ..
theorem Zi {l : List jc} {k : Nat} {x : jc} (h : l[k]? = some x) : (xN l)[k]? = some x.m := by unfold xN; rw [List.getElem?_map, h]; rfl
def rV : List Int → Except Int (Int × List Int)
 | [] => .error 20
 | c :: r => if c < 64 then .error 31 else .ok (c, r)
def pz (k : Int) (x : Pr) : Int :=
 if k = 41 ∨ k = 44 then (if x.t = 65 ∨ x.t = 66 ∨ x.t = 192 then 0 else 33) else
 if k = 40 then (if x.t = 65 ∨ x.t = 66 ∨ (x.t = 0 ∧ x.v = 0) then 0 else 33) else 33
def jX (k : Int) : Nat → List Int → Except Int (List Pr × List Int)
 | 0, l => .ok ([], l)
 | n + 1, l => match l with
  | t :: v :: r => if pz k ⟨t, v⟩ ≠ 0 then .error (pz k ⟨t, v⟩) else (match jX k n r with | .error e => .error e | .ok (ps, r') => .ok (⟨t, v⟩ :: ps, r'))
  | _ => .error 20
def uA (l : List Int) : Except Int ((Int × Int × Bool) × List Int) :=
 match kY l with
 | .error e => .error e
 | .ok (p, r) => match fG r with
  | .error e => .error e
  | .ok (c, r1) => if c = 8 then (match rV r1 with | .error e => .error e | .ok (d, r2) => .ok ((p, d, true), r2)) else if dX c = true then .ok ((p, c, false), r1) else .error 31
def ji : List Int → Except Int (iK × List Int)
 | [] => .error 20
 | c :: r => if dX c = true then .ok (⟨0, 0, 0, false, [], (c :: r).takeWhile dX⟩, (c :: r).dropWhile dX) else
  if c = 17 ∨ c = 18 then (match kY r with | .error e => .error e | .ok (p, r1) => .ok (⟨c, p, 0, false, [], []⟩, r1)) else
  if c = 29 then (match fG r with | .error e => .error e | .ok (y, r1) => .ok (⟨c, 0, y % 64, false, [], []⟩, r1)) else
  if c = 41 ∨ c = 44 then (match fG r with | .error e => .error e | .ok (n, r1) => match jX c n.toNat r1 with | .error e => .error e | .ok (ps, r2) => .ok (⟨c, 0, 0, false, ps, []⟩, r2)) else
  if c = 40 then (match jX c 1 r with | .error e => .error e | .ok (ps, r2) => .ok (⟨c, 0, 0, false, ps, []⟩, r2)) else
  if c = 19 ∨ c = 5 then .ok (⟨c, 0, 0, false, [], []⟩, r) else
  if c = 60 then (match uA r with | .error e => .error e | .ok ((p, d, g), r2) => .ok (⟨c, p, d, g, [], []⟩, r2)) else
  if c = 8 then (match rV r with | .error e => .error e | .ok (d, r1) => .ok (⟨c, 0, d, false, [], []⟩, r1)) else .error 31
theorem Tn {l r : List Int} {c : Int} (h : rV l = .ok (c, r)) : r.length < l.length := by
 unfold rV at h
 split at h
 ·cases h
 ·split at h
  ·cases h
  ·cases h; simp
theorem Fh {l r : List Int} {c : Int} (h : fG l = .ok (c, r)) : r.length < l.length := by rw [dU h]; simp
theorem IU {k : Int} : ∀ {n : Nat} {l r : List Int} {ps : List Pr}, jX k n l = .ok (ps, r) → r.length ≤ l.length
 | 0, l, r, ps, h => by unfold jX at h; cases h; exact Nat.le_refl _
 | n + 1, l, r, ps, h => by
  unfold jX at h
  split at h
  ·split at h
   ·cases h
   ·split at h
    ·cases h
    ·rename_i h2
     cases h
     have := IU h2
     simp only [List.length_cons]; omega
  ·cases h
theorem agD {l r : List Int} {x : Int × Int × Bool} (h : uA l = .ok (x, r)) : r.length < l.length := by
 unfold uA at h
 split at h
 ·cases h
 ·rename_i h1
  have := zG h1
  split at h
  ·cases h
  ·rename_i h2
   have := Fh h2
   split at h
   ·split at h
    ·cases h
    ·rename_i h3
     have := Tn h3
     cases h; omega
   ·split at h
    ·cases h; omega
    ·cases h
theorem Ju {p : Int → Bool} : ∀ l : List Int, (l.dropWhile p).length ≤ l.length
 | [] => Nat.le_refl _
 | x :: l => by
  have := Ju (p := p) l
  rw [List.dropWhile_cons]
  split
  ·simp only [List.length_cons]; omega
  ·exact Nat.le_refl _
theorem OE {l r : List Int} {x : iK} (h : ji l = .ok (x, r)) : r.length < l.length := by
 unfold ji at h
 split at h
 ·cases h
 ·rename_i c r0
  simp only [List.length_cons]
  split at h
  ·rename_i hp
   cases h
   rw [List.dropWhile_cons, if_pos hp]
   have := Ju (p := dX) r0
   omega
  split at h
  ·split at h
   ·cases h
   ·rename_i h1; cases h; have := zG h1; omega
  split at h
  ·split at h
   ·cases h
   ·rename_i h1; cases h; have := Fh h1; omega
  split at h
  ·split at h
   ·cases h
   ·rename_i h1
    split at h
    ·cases h
    ·rename_i h2; cases h; have := Fh h1; have := IU h2; omega
  split at h
  ·split at h
   ·cases h
   ·rename_i h2; cases h; have := IU h2; omega
  split at h
  ·cases h; omega
  split at h
  ·split at h
   ·cases h
   ·rename_i h1; cases h; have := agD h1; omega
  split at h
  ·split at h
   ·cases h
   ·rename_i h1; cases h; have := Tn h1; omega
  ·cases h
def gu (l : List Int) : List iK × Int :=
 if l = [] then ([], 0) else
 match h : ji l with
 | .error e => ([], e)
 | .ok (x, r) => (x :: (gu r).1, (gu r).2)
termination_by l.length
decreasing_by all_goals exact OE h
theorem qZ : gu [] = ([], 0) := by unfold gu; rfl
theorem KW {l : List Int} {e : Int} (hl : l ≠ []) (h : ji l = .error e) : gu l = ([], e) := by
 unfold gu
 rw [if_neg hl]
 split
 ·rename_i h2; rw [h] at h2; cases h2; rfl
 ·rename_i h2; rw [h] at h2; cases h2
theorem wJ {l r : List Int} {x : iK} (hl : l ≠ []) (h : ji l = .ok (x, r)) : gu l = (x :: (gu r).1, (gu r).2) := by
 rw [gu, if_neg hl]
 split
 ·rename_i h2; rw [h] at h2; cases h2
 ·rename_i h2; rw [h] at h2; cases h2; rfl
def preO (l : List iK) (x : List iK × Int) : List iK × Int := (l ++ x.1, x.2)
theorem agy (x : List iK × Int) : x = preO [] x := rfl
theorem aey {a : List iK × Int} {l : List iK} {cur r : List Int} {x : iK} (h : a = preO l (gu cur)) (hl : cur ≠ []) (hx : ji cur = .ok (x, r)) : a = preO (l ++ [x]) (gu r) := by
 rw [h, wJ hl hx]; unfold preO; simp
theorem agB {a : List iK × Int} {l : List iK} {cur : List Int} {e : Int} (h : a = preO l (gu cur)) (hl : cur ≠ []) (hx : ji cur = .error e) : a = (l, e) := by
 rw [h, KW hl hx]; unfold preO; simp
theorem agC {a : List iK × Int} {l : List iK} {cur : List Int} (h : a = preO l (gu cur)) (hl : cur = []) : a = (l, 0) := by
 rw [h, hl, qZ]; unfold preO; simp
theorem drop_at {bs : List Int} {pa : Nat} {y : Int} (h : bs[pa]? = some y) : bs.drop pa = y :: bs.drop (pa + 1) := by
 obtain ⟨hl, he⟩ := List.getElem?_eq_some_iff.1 h
 rw [List.drop_eq_getElem_cons hl, he]
theorem OC {bs : List Int} {pa : Nat} {y : Int} (h : bs[pa]? = some y) : fG (bs.drop pa) = .ok (y, bs.drop (pa + 1)) := by rw [drop_at h]; rfl
theorem aeq {bs : List Int} {pa : Nat} (h : bs.length ≤ pa) : fG (bs.drop pa) = .error 20 := by rw [List.drop_eq_nil_of_le h]; rfl
theorem aer {l r r2 : List Int} {a b : Int} (h : fG l = .ok (a, r)) (h2 : fG r = .ok (b, r2)) : kY l = .ok (vP a b, r2) := by rw [dU h, dU h2]; rfl
theorem aet {l : List Int} {e : Int} (h : fG l = .error e) : kY l = .error e := by obtain ⟨rfl, rfl⟩ := rQ h; rfl
theorem aes {l r : List Int} {a e : Int} (h : fG l = .ok (a, r)) (h2 : fG r = .error e) : kY l = .error e := by obtain ⟨h3, rfl⟩ := rQ h2; rw [dU h, h3]; rfl
theorem agr {l r : List Int} {a : Int} (h : fG l = .ok (a, r)) (h2 : ¬ a < 64) : rV l = .ok (a, r) := by rw [dU h]; unfold rV; dsimp only; rw [if_neg h2]
theorem ags {l : List Int} {e : Int} (h : fG l = .error e) : rV l = .error e := by obtain ⟨rfl, rfl⟩ := rQ h; rfl
theorem agq {l r : List Int} {a : Int} (h : fG l = .ok (a, r)) (h2 : a < 64) : rV l = .error 31 := by rw [dU h]; unfold rV; dsimp only; rw [if_pos h2]
def En (l : List Pr) (x : Except Int (List Pr × List Int)) : Except Int (List Pr × List Int) := match x with | .error e => .error e | .ok (ps, r) => .ok (l ++ ps, r)
theorem agt (x : Except Int (List Pr × List Int)) : x = En [] x := by unfold En; split <;> rfl
theorem aeu {a : Except Int (List Pr × List Int)} {l : List Pr} {k t v : Int} {m n : Nat} {c0 c1 c2 : List Int} (h : a = En l (jX k (m - n) c0)) (hn : n < m) (h1 : fG c0 = .ok (t, c1)) (h2 : fG c1 = .ok (v, c2)) (hc : pz k ⟨t, v⟩ = 0) : a = En (l ++ [⟨t, v⟩]) (jX k (m - (n + 1)) c2) := by
 rw [h, show m - n = (m - (n + 1)) + 1 by omega, dU h1, dU h2, jX, if_neg (fun h => h hc)]
 unfold En
 cases jX k (m - (n + 1)) c2 with
 | error e => rfl
 | ok x => simp
theorem aj3 {a : Except Int (List Pr × List Int)} {l : List Pr} {k e : Int} {m n : Nat} {c0 : List Int} (h : a = En l (jX k (m - n) c0)) (hn : n < m) (h1 : fG c0 = .error e) : a = .error e := by
 obtain ⟨rfl, rfl⟩ := rQ h1
 rw [h, show m - n = (m - (n + 1)) + 1 by omega]; rfl
theorem aj2 {a : Except Int (List Pr × List Int)} {l : List Pr} {k t e : Int} {m n : Nat} {c0 c1 : List Int} (h : a = En l (jX k (m - n) c0)) (hn : n < m) (h1 : fG c0 = .ok (t, c1)) (h2 : fG c1 = .error e) : a = .error e := by
 obtain ⟨h3, rfl⟩ := rQ h2
 rw [h, show m - n = (m - (n + 1)) + 1 by omega, dU h1, h3]; rfl
theorem aj1 {a : Except Int (List Pr × List Int)} {l : List Pr} {k t v : Int} {m n : Nat} {c0 c1 c2 : List Int} (h : a = En l (jX k (m - n) c0)) (hn : n < m) (h1 : fG c0 = .ok (t, c1)) (h2 : fG c1 = .ok (v, c2)) (hc : ¬ pz k ⟨t, v⟩ = 0) : a = .error (pz k ⟨t, v⟩) := by
 rw [h, show m - n = (m - (n + 1)) + 1 by omega, dU h1, dU h2, jX, if_pos hc]; rfl
theorem agu {a : Except Int (List Pr × List Int)} {l : List Pr} {k : Int} {m : Nat} {c0 : List Int} (h : a = En l (jX k (m - m) c0)) : a = .ok (l, c0) := by
 rw [h, Nat.sub_self]; unfold jX En; simp
theorem aj8 {l : List Int} {e : Int} (h : kY l = .error e) : uA l = .error e := by unfold uA; rw [h]
theorem aj7 {l r : List Int} {p e : Int} (h : kY l = .ok (p, r)) (h2 : fG r = .error e) : uA l = .error e := by unfold uA; rw [h]; dsimp only; rw [h2]
theorem aev {l r r1 : List Int} {p c : Int} (h : kY l = .ok (p, r)) (h2 : fG r = .ok (c, r1)) (hc : c = 8) : uA l = match rV r1 with | .error e => .error e | .ok (d, r2) => .ok ((p, d, true), r2) := by unfold uA; rw [h]; dsimp only; rw [h2]; dsimp only; rw [if_pos hc]
theorem amG {l r r1 : List Int} {p c : Int} (h : kY l = .ok (p, r)) (h2 : fG r = .ok (c, r1)) (hc : ¬ c = 8) (hp : dX c = true) : uA l = .ok ((p, c, false), r1) := by unfold uA; rw [h]; dsimp only; rw [h2]; dsimp only; rw [if_neg hc, if_pos hp]
theorem aj6 {l r r1 : List Int} {p c : Int} (h : kY l = .ok (p, r)) (h2 : fG r = .ok (c, r1)) (hc : ¬ c = 8) (hp : dX c = false) : uA l = .error 31 := by unfold uA; rw [h]; dsimp only; rw [h2]; dsimp only; rw [if_neg hc, if_neg (by rw [hp]; decide)]
theorem acE {bs : List Int} {p0 p1 : Nat} (h : p0 ≤ p1) (hp : p1 ≤ bs.length) (hall : ∀ (j : Nat) x, p0 ≤ j → j < p1 → bs[j]? = some x → dX x = true) (hend : ∀ x, bs[p1]? = some x → dX x = false) :
  (bs.drop p0).takeWhile dX = (bs.drop p0).take (p1 - p0) ∧ (bs.drop p0).dropWhile dX = bs.drop p1 := by
 have hn : ∃ n, p1 = p0 + n := ⟨p1 - p0, by omega⟩
 obtain ⟨n, rfl⟩ := hn
 clear h
 induction n generalizing p0 with
 | zero =>
  rw [show p0 + 0 - p0 = 0 by omega, List.take_zero, Nat.add_zero]
  cases hb : bs[p0]? with
  | none => rw [List.drop_eq_nil_of_le (List.getElem?_eq_none_iff.1 hb)]; exact ⟨rfl, rfl⟩
  | some x =>
   have := hend x hb
   rw [drop_at hb, List.takeWhile_cons, List.dropWhile_cons, this]; exact ⟨rfl, rfl⟩
 | succ n ih =>
  have hlt : p0 < bs.length := by omega
  have hb := List.getElem?_eq_getElem hlt
  have hpl := hall p0 _ (Nat.le_refl _) (by omega) hb
  have := ih (p0 := p0 + 1) (by omega) (fun j x h1 h2 => hall j x (by omega) (by omega)) (fun x hx => hend x (by rw [show p0 + (n + 1) = p0 + 1 + n by omega]; exact hx))
  rw [drop_at hb, List.takeWhile_cons, List.dropWhile_cons, hpl, if_pos rfl, if_pos rfl, this.1, this.2, show p0 + (n + 1) - p0 = (p0 + 1 + n - (p0 + 1)) + 1 by omega, List.take_succ_cons, show p0 + (n + 1) = p0 + 1 + n by omega]
  exact ⟨rfl, rfl⟩
theorem amH {bs : List Int} {p0 p1 : Nat} {y : Int} (hy : bs[p0]? = some y) (hp : dX y = true) (h : p0 ≤ p1) (hl : p1 ≤ bs.length) (hall : ∀ (j : Nat) x, p0 ≤ j → j < p1 → bs[j]? = some x → dX x = true) (hend : ∀ x, bs[p1]? = some x → dX x = false) :
  ji (bs.drop p0) = .ok (⟨0, 0, 0, false, [], (bs.drop p0).take (p1 - p0)⟩, bs.drop p1) := by
 obtain ⟨h1, h2⟩ := acE h hl hall hend
 rw [← h1, ← h2, drop_at hy, ji, if_pos hp]
section
variable {l r r1 r2 : List Int} {c : Int}
theorem amJ {p : Int} (h : fG l = .ok (c, r)) (hp : dX c = false) (hc : c = 17 ∨ c = 18) (h1 : kY r = .ok (p, r1)) : ji l = .ok (⟨c, p, 0, false, [], []⟩, r1) := by
 rw [dU h, ji, if_neg (by rw [hp]; decide), if_pos hc, h1]
theorem aka {e : Int} (h : fG l = .ok (c, r)) (hp : dX c = false) (hc : c = 17 ∨ c = 18) (h1 : kY r = .error e) : ji l = .error e := by
 rw [dU h, ji, if_neg (by rw [hp]; decide), if_pos hc, h1]
theorem amK {y : Int} (h : fG l = .ok (c, r)) (hp : dX c = false) (hc : c = 29) (h1 : fG r = .ok (y, r1)) : ji l = .ok (⟨c, 0, y % 64, false, [], []⟩, r1) := by
 rw [dU h, ji, if_neg (by rw [hp]; decide), if_neg (by omega), if_pos hc, h1]
theorem akb {e : Int} (h : fG l = .ok (c, r)) (hp : dX c = false) (hc : c = 29) (h1 : fG r = .error e) : ji l = .error e := by
 rw [dU h, ji, if_neg (by rw [hp]; decide), if_neg (by omega), if_pos hc, h1]
theorem amL {n : Int} {ps : List Pr} (h : fG l = .ok (c, r)) (hp : dX c = false) (hc : c = 41 ∨ c = 44) (h1 : fG r = .ok (n, r1)) (h2 : jX c n.toNat r1 = .ok (ps, r2)) : ji l = .ok (⟨c, 0, 0, false, ps, []⟩, r2) := by
 rw [dU h, ji, if_neg (by rw [hp]; decide), if_neg (by omega), if_neg (by omega), if_pos hc, h1]; dsimp only; rw [h2]
theorem agx {e : Int} (h : fG l = .ok (c, r)) (hp : dX c = false) (hc : c = 41 ∨ c = 44) (h1 : fG r = .error e) : ji l = .error e := by
 rw [dU h, ji, if_neg (by rw [hp]; decide), if_neg (by omega), if_neg (by omega), if_pos hc, h1]
theorem agw {n e : Int} (h : fG l = .ok (c, r)) (hp : dX c = false) (hc : c = 41 ∨ c = 44) (h1 : fG r = .ok (n, r1)) (h2 : jX c n.toNat r1 = .error e) : ji l = .error e := by
 rw [dU h, ji, if_neg (by rw [hp]; decide), if_neg (by omega), if_neg (by omega), if_pos hc, h1]; dsimp only; rw [h2]
theorem amM {ps : List Pr} (h : fG l = .ok (c, r)) (hp : dX c = false) (hc : c = 40) (h2 : jX c 1 r = .ok (ps, r2)) : ji l = .ok (⟨c, 0, 0, false, ps, []⟩, r2) := by
 rw [dU h, ji, if_neg (by rw [hp]; decide), if_neg (by omega), if_neg (by omega), if_neg (by omega), if_pos hc, h2]
theorem akc {e : Int} (h : fG l = .ok (c, r)) (hp : dX c = false) (hc : c = 40) (h2 : jX c 1 r = .error e) : ji l = .error e := by
 rw [dU h, ji, if_neg (by rw [hp]; decide), if_neg (by omega), if_neg (by omega), if_neg (by omega), if_pos hc, h2]
theorem amN (h : fG l = .ok (c, r)) (hp : dX c = false) (hc : c = 19 ∨ c = 5) : ji l = .ok (⟨c, 0, 0, false, [], []⟩, r) := by
 rw [dU h, ji, if_neg (by rw [hp]; decide), if_neg (by omega), if_neg (by omega), if_neg (by omega), if_neg (by omega), if_pos hc]
theorem amO {p d : Int} {g : Bool} (h : fG l = .ok (c, r)) (hp : dX c = false) (hc : c = 60) (h1 : uA r = .ok ((p, d, g), r1)) : ji l = .ok (⟨c, p, d, g, [], []⟩, r1) := by
 rw [dU h, ji, if_neg (by rw [hp]; decide), if_neg (by omega), if_neg (by omega), if_neg (by omega), if_neg (by omega), if_neg (by omega), if_pos hc, h1]
theorem akd {e : Int} (h : fG l = .ok (c, r)) (hp : dX c = false) (hc : c = 60) (h1 : uA r = .error e) : ji l = .error e := by
 rw [dU h, ji, if_neg (by rw [hp]; decide), if_neg (by omega), if_neg (by omega), if_neg (by omega), if_neg (by omega), if_neg (by omega), if_pos hc, h1]
theorem amP {d : Int} (h : fG l = .ok (c, r)) (hp : dX c = false) (hc : c = 8) (h1 : rV r = .ok (d, r1)) : ji l = .ok (⟨c, 0, d, false, [], []⟩, r1) := by
 rw [dU h, ji, if_neg (by rw [hp]; decide), if_neg (by omega), if_neg (by omega), if_neg (by omega), if_neg (by omega), if_neg (by omega), if_neg (by omega), if_pos hc, h1]
theorem ake {e : Int} (h : fG l = .ok (c, r)) (hp : dX c = false) (hc : c = 8) (h1 : rV r = .error e) : ji l = .error e := by
 rw [dU h, ji, if_neg (by rw [hp]; decide), if_neg (by omega), if_neg (by omega), if_neg (by omega), if_neg (by omega), if_neg (by omega), if_neg (by omega), if_pos hc, h1]
theorem akf (h : fG l = .ok (c, r)) (hp : dX c = false) (hc : ¬ (c = 17 ∨ c = 18 ∨ c = 29 ∨ c = 41 ∨ c = 44 ∨ c = 40 ∨ c = 19 ∨ c = 5 ∨ c = 60 ∨ c = 8)) : ji l = .error 31 := by
 rw [dU h, ji, if_neg (by rw [hp]; decide), if_neg (by omega), if_neg (by omega), if_neg (by omega), if_neg (by omega), if_neg (by omega), if_neg (by omega), if_neg (by omega)]
end
end Gs
end
