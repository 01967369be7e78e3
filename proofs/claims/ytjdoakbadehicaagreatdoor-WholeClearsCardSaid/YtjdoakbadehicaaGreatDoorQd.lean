/- Part of a proof. No condition but those that its theorems state. -/
import Derived.Test.YtjdoakbadehicaaGreatDoorQa
import Derived.Test.YtjdoakbadehicaaGreatDoorQc
import Derived.Lib.LaidTab
import Derived.Lib.AppendIntMem
import Derived.ChangeSame
import Derived.Deep.Slices
set_option linter.unusedVariables false
set_option linter.unusedSimpArgs false
section
namespace Go.Proofs.YtjdoakbadehicaaGreatDoor
open Go Go.Sh
set_option maxRecDepth 100000
theorem ad4 {n : Int} {w : World} (hn : 0 ≤ n ∧ n < 100) : oX 77 #[Z.i n] w fun e w' => e = .returned (.string (Gs.yL n)) ∧ aA no w w' := by
  obtain ⟨m, rfl⟩ := Int.eq_ofNat_of_zero_le hn.1
  rw [Gs.QA]
  exact (Go.Proofs.Tryz.strconv_Itoa_small m (by omega) w).mono fun e w' h => ⟨h.1, by rw [h.2]; exact Fr.refl _ _ _⟩
theorem Jd {v : Int} {w : World} :
    oX 114 #[Z.i v] w fun e w' => e = .returned (Z.u (Gs.nX v)) ∧ aA no w w' := by
 refine Zi.calls ?_
 unfold Zi
 have hvm : 0 ≤ v % 64 ∧ v % 64 < 64 := by omega
 have hF : aA no w w := Fr.refl _ _ _
 refine au (ai5 _ _) ?_
 refine au (ajm _ (by omega) (by omega) (by omega)) ?_
 refine az (geq _ _ _ _) (fun h1 => ?_) (fun h1 => ?_)
 refine aX (aX ?_)
 refine az (leq _ _ _ _) (fun h2 => ?_) (fun h2 => ?_)
 refine aU (aX (aX ?_))
 refine az (jQ _ _ _ _ _) (fun h3 => ?_) (fun h3 => ?_)
 refine aU (bu (bu (aU (aK ?_))))
 refine au (Qj _ (by omega) (by omega)) ?_
 refine au (yf (by kernel_rfl) (by kernel_rfl) (by omega)) ?_
 exact ⟨nR (by unfold Gs.nX; dsimp only; (rw [if_pos (by omega)] <;> omega)), hF⟩
 refine aU (bz (bz ?_))
 refine az (cu _ _ _ _ _) (fun h5 => ?_) (fun h5 => ?_)
 refine aT (aK ?_)
 refine au (Qj _ (by omega) (by omega)) ?_
 refine au (yf (by kernel_rfl) (by kernel_rfl) (by omega)) ?_
 exact ⟨nR (by unfold Gs.nX; dsimp only; (rw [if_pos (by omega)] <;> omega)), hF⟩
 refine aT (aF ?_)
 refine au (Qj _ (by omega) (by omega)) ?_
 refine au (yf (by kernel_rfl) (by kernel_rfl) (by omega)) ?_
 exact ⟨nR (by unfold Gs.nX; dsimp only; (rw [if_neg (by omega)] <;> omega)), hF⟩
 refine aU (aQ (aQ (aT (bz (bz ?_)))))
 refine az (cu _ _ _ _ _) (fun h8 => ?_) (fun h8 => ?_)
 refine aT (aK ?_)
 refine au (Qj _ (by omega) (by omega)) ?_
 refine au (yf (by kernel_rfl) (by kernel_rfl) (by omega)) ?_
 exact ⟨nR (by unfold Gs.nX; dsimp only; (rw [if_pos (by omega)] <;> omega)), hF⟩
 refine aT (aF ?_)
 refine au (Qj _ (by omega) (by omega)) ?_
 refine au (yf (by kernel_rfl) (by kernel_rfl) (by omega)) ?_
 exact ⟨nR (by unfold Gs.nX; dsimp only; (rw [if_neg (by omega)] <;> omega)), hF⟩
 refine aQ (aQ (aT (aQ (aQ (aT (bz (bz ?_)))))))
 refine az (cu _ _ _ _ _) (fun h11 => ?_) (fun h11 => ?_)
 refine aT (aK ?_)
 refine au (Qj _ (by omega) (by omega)) ?_
 refine au (yf (by kernel_rfl) (by kernel_rfl) (by omega)) ?_
 exact ⟨nR (by unfold Gs.nX; dsimp only; (rw [if_pos (by omega)] <;> omega)), hF⟩
 refine aT (aF ?_)
 refine au (Qj _ (by omega) (by omega)) ?_
 refine au (yf (by kernel_rfl) (by kernel_rfl) (by omega)) ?_
 exact ⟨nR (by unfold Gs.nX; dsimp only; (rw [if_neg (by omega)] <;> omega)), hF⟩
theorem Je {a : Int} {w : World} (ha : 0 ≤ a ∧ a ≤ 255) :
    oX 159 #[Z.u a] w fun e w' => e = .returned (Z.i (a % 64)) ∧ aA no w w' := by
 refine ZB.calls ?_
 unfold ZB
 have hF : aA no w w := Fr.refl _ _ _
 refine au (EP _ (by omega)) ?_
 refine au (kw (by kernel_rfl) (by kernel_rfl) (by omega)) ?_
 exact ⟨rfl, hF⟩
theorem Ib {a b : Int} {w : World} (ha : 0 ≤ a ∧ a ≤ 255) (hb : 0 ≤ b ∧ b ≤ 255) :
    oX 138 #[Z.u a, Z.u b] w fun e w' => e = .returned (Z.i (Gs.uU a b)) ∧ aA no w w' := by
 refine Zu.calls ?_
 unfold Zu
 have hF : aA no w w := Fr.refl _ _ _
 refine au (Yq _ (by omega)) ?_
 refine az (cu _ _ _ _ _) (fun h1 => ?_) (fun h1 => ?_)
 refine aK ?_
 refine au (kw (by kernel_rfl) (by kernel_rfl) (by omega)) ?_
 refine au (ai4 _ (by omega)) ?_
 refine au (kw (by kernel_rfl) (by kernel_rfl) (by omega)) ?_
 refine au (or8 _ (by omega) (by omega)) ?_
 exact ⟨nR (by unfold Gs.uU; (rw [if_pos (by omega)] <;> omega)), hF⟩
 refine aF ?_
 refine aB (Je ha) (fun w3 U3 => ?_)
 refine au (an9 _ (by omega)) ?_
 refine aB (Je hb) (fun w4 U4 => ?_)
 refine au (Qj _ (by omega) (by omega)) ?_
 replace hF := (hF.go0 U3).go0 U4
 exact ⟨nR (by unfold Gs.uU; (rw [if_neg (by omega)] <;> omega)), hF⟩
theorem RP {p n : Int} {w : World} :
    oX 113 #[Z.i p, Z.i n] w fun e w' => e = .returned (.tuple #[.agg #[Z.u (Gs.pR p n).1, Z.u (Gs.pR p n).2.1], Z.i (Gs.pR p n).2.2]) ∧ aA no w w' := by
 refine Zh.calls ?_
 unfold Zh
 have hF : aA no w w := Fr.refl _ _ _
 refine Z.n (#[Z.u 0, Z.u 0]) (fun b1 w1 e1 ah _ U1 => ?_)
 have bZ : w.heap.size ≤ b1 := by have := hF.size; omega
 refine az (lss _ _ _ _) (fun h2 => ?_) (fun h2 => ?_)
 refine bu (bu (aU (bu (bu (aU (bu (bu (bu (aU (aK ?_))))))))))
 refine au (tY (n := 2) (m := 1) (z := #[Z.u 0, Z.u 0]) (by kernel_rfl) (by kernel_rfl) (by (simp [eH, splice, fU, Value.cells, Gs.cv]; rfl))) ?_
 refine ig (n := 2) (by kernel_rfl) (by rfl) (by (simp [Value.cells, Value.oneCell', Gs.cv]; done)) ah (Nat.le_of_ble_eq_true rfl) (by (simp; rfl)) (fun w3 ah _ U3 => ?_)
 refine Z.a 2 ah ?_
 replace hF := (hF.go0 U1).go1 U3 bZ
 rw [Gs.Gv (by omega)]; exact ⟨rfl, hF⟩
 refine bz (bz ?_)
 refine az (gtr _ _ _ _) (fun h5 => ?_) (fun h5 => ?_)
 refine aT (bu (bu (aU (bu (bu (bu (aU (aK ?_))))))))
 refine au (tY (n := 2) (m := 1) (z := #[Z.u 0, Z.u 0]) (by kernel_rfl) (by kernel_rfl) (by (simp [eH, splice, fU, Value.cells, Gs.cv]; rfl))) ?_
 refine ig (n := 2) (by kernel_rfl) (by rfl) (by (simp [Value.cells, Value.oneCell', Gs.cv]; done)) ah (Nat.le_of_ble_eq_true rfl) (by (simp; rfl)) (fun w6 ah _ U6 => ?_)
 refine Z.a 2 ah ?_
 replace hF := (hF.go0 U1).go1 U6 bZ
 rw [Gs.Gv (by omega)]; exact ⟨rfl, hF⟩
 refine aT (bz (bz ?_))
 refine az (lss _ _ _ _) (fun h8 => ?_) (fun h8 => ?_)
 refine aT (bu (bu (bu (aU (aK ?_)))))
 refine au (tY (n := 2) (m := 1) (z := #[Z.u 0, Z.u 0]) (by kernel_rfl) (by kernel_rfl) (by (simp [eH, splice, fU, Value.cells, Gs.cv]; rfl))) ?_
 refine ig (n := 2) (by kernel_rfl) (by rfl) (by (simp [Value.cells, Value.oneCell', Gs.cv]; done)) ah (Nat.le_of_ble_eq_true rfl) (by (simp; rfl)) (fun w9 ah _ U9 => ?_)
 refine Z.a 2 ah ?_
 replace hF := (hF.go0 U1).go1 U9 bZ
 rw [Gs.Gv (by omega)]; exact ⟨rfl, hF⟩
 refine aT (bz (bz (bz ?_)))
 refine az (geq _ _ _ _) (fun h11 => ?_) (fun h11 => ?_)
 refine aT (aK ?_)
 refine au (tY (n := 2) (m := 1) (z := #[Z.u 0, Z.u 0]) (by kernel_rfl) (by kernel_rfl) (by (simp [eH, splice, fU, Value.cells, Gs.cv]; rfl))) ?_
 refine ig (n := 2) (by kernel_rfl) (by rfl) (by (simp [Value.cells, Value.oneCell', Gs.cv]; done)) ah (Nat.le_of_ble_eq_true rfl) (by (simp; rfl)) (fun w12 ah _ df => ?_)
 refine Z.a 2 ah ?_
 replace hF := (hF.go0 U1).go1 df bZ
 rw [Gs.Gv (by omega)]; exact ⟨rfl, hF⟩
 refine aT (aF ?_)
 refine az (gtr _ _ _ _) (fun h14 => ?_) (fun h14 => ?_)
 refine aK ?_
 refine au (an8 _ _) ?_
 refine au (yf (by kernel_rfl) (by kernel_rfl) (by omega)) ?_
 refine au (ahd (by kernel_rfl) (by kernel_rfl)) ?_
 refine au (tY (n := 2) (m := 1) (z := #[Z.u 0, Z.u 0]) (by kernel_rfl) (by kernel_rfl) (by (simp [eH, splice, fU, Value.cells, Gs.cv]; rfl))) ?_
 refine ig (n := 2) (by kernel_rfl) (by rfl) (by (simp [Value.cells, Value.oneCell', Gs.cv]; done)) ah (Nat.le_of_ble_eq_true rfl) (by (simp; rfl)) (fun w16 ah _ bQ => ?_)
 refine Z.a 2 ah ?_
 replace hF := (hF.go0 U1).go1 bQ bZ
 rw [Gs.ad5 (by omega) (by omega)]; exact ⟨rfl, hF⟩
 refine aF ?_
 refine au (an7 _ _) ?_
 refine aB (Jd (v := p / 64)) (fun xh dO => ?_)
 refine aB (Jd (v := p)) (fun Aa eX => ?_)
 refine au (tY (n := 2) (m := 1) (z := #[Z.u 0, Z.u 0]) (by kernel_rfl) (by kernel_rfl) (by (simp [eH, splice, fU, Value.cells, Gs.cv]; rfl))) ?_
 replace ah := eX.af (dO.af ah)
 refine ig (n := 2) (by kernel_rfl) (by rfl) (by (simp [Value.cells, Value.oneCell', Gs.cv]; done)) ah (Nat.le_of_ble_eq_true rfl) (by (simp; rfl)) (fun wY ah _ dR => ?_)
 refine Z.a 2 ah ?_
 replace hF := (((hF.go0 U1).go0 dO).go0 eX).go1 dR bZ
 rw [Gs.aan (by omega) (by omega)]; exact ⟨rfl, hF⟩
theorem rf {b : Int} {w : World} :
    oX 115 #[Z.u b] w fun e w' => e = .returned (.bool (Gs.fJ b)) ∧ aA no w w' := by
 refine Zj.calls ?_
 unfold Zj
 have hF : aA no w w := Fr.refl _ _ _
 refine bP (fun g w' => ∃ (q : Bool), (g 4 = .bool q) ∧ (q = decide (b = 0 ∨ b = 12 ∨ b = 13 ∨ b = 21 ∨ b = 25 ∨ b = 28 ∨ b = 30 ∨ b = 63)) ∧ (aA no w w')) (fun J1 hJ1 => ?_) (fun gJ1 jK hI => ?_)
 refine az (cu _ _ _ _ _) (fun h1 => ?_) (fun h1 => ?_)
 refine aK ?_
 refine hJ1 _ _ ?_
 exact ⟨_, (by rfl), (by exact (decide_eq_true (by omega)).symm), hF⟩
 refine aF ?_
 refine az (cu _ _ _ _ _) (fun h2 => ?_) (fun h2 => ?_)
 refine aK ?_
 refine hJ1 _ _ ?_
 exact ⟨_, (by rfl), (by exact (decide_eq_true (by omega)).symm), hF⟩
 refine aF ?_
 refine az (cu _ _ _ _ _) (fun h3 => ?_) (fun h3 => ?_)
 refine aK ?_
 refine hJ1 _ _ ?_
 exact ⟨_, (by rfl), (by exact (decide_eq_true (by omega)).symm), hF⟩
 refine aF ?_
 refine az (cu _ _ _ _ _) (fun h4 => ?_) (fun h4 => ?_)
 refine aK ?_
 refine hJ1 _ _ ?_
 exact ⟨_, (by rfl), (by exact (decide_eq_true (by omega)).symm), hF⟩
 refine aF ?_
 refine az (cu _ _ _ _ _) (fun h5 => ?_) (fun h5 => ?_)
 refine aK ?_
 refine hJ1 _ _ ?_
 exact ⟨_, (by rfl), (by exact (decide_eq_true (by omega)).symm), hF⟩
 refine aF ?_
 refine az (cu _ _ _ _ _) (fun h6 => ?_) (fun h6 => ?_)
 refine aK ?_
 refine hJ1 _ _ ?_
 exact ⟨_, (by rfl), (by exact (decide_eq_true (by omega)).symm), hF⟩
 refine aF ?_
 refine az (cu _ _ _ _ _) (fun h7 => ?_) (fun h7 => ?_)
 refine aK ?_
 refine hJ1 _ _ ?_
 exact ⟨_, (by rfl), (by exact (decide_eq_true (by omega)).symm), hF⟩
 refine aF ?_
 refine az (cu _ _ _ _ _) (fun h8 => ?_) (fun h8 => ?_)
 refine hJ1 _ _ ?_
 exact ⟨_, (by rfl), (by exact (decide_eq_true (by omega)).symm), hF⟩
 refine hJ1 _ _ ?_
 exact ⟨_, (by rfl), (by exact (decide_eq_false (by omega)).symm), hF⟩
 obtain ⟨q, g4, hq, hF⟩ := hI
 rw [g4]
 refine jX (fun h9 => ?_) (fun h9 => ?_)
 rw [Gs.aao (of_decide_eq_true (hq.symm.trans (by assumption)))]; exact ⟨rfl, hF⟩
 refine au (geq _ _ _ _) ?_
 rw [Gs.ad6 (of_decide_eq_false (hq.symm.trans (by assumption)))]; exact ⟨rfl, hF⟩
theorem Pv {page : Int} {c : Gs.Cell} {w : World} (hc : 0 ≤ c.b ∧ c.b ≤ 255) :
    oX 78 #[Z.i page, .agg (Gs.cv c).toArray] w fun e w' => e = .returned (.string (Utf8.encode (Gs.vk page c))) ∧ aA no w w' := by
 refine F78.calls ?_
 unfold F78
 have hF : aA no w w := Fr.refl _ _ _
 refine Z.x ((Gs.cv c).toArray) (fun b1 w1 e1 ah _ U1 => ?_)
 refine Z.f 2 ?_
 refine pW (kT (by kernel_rfl) ah (by rfl)) (fun h2 => ?_) (fun h2 => ?_)
 refine bu (bu (bu (bu (rY (rY (rY (rY (bu (aU (aK ?_))))))))))
 replace hF := hF.go0 U1
 exact ⟨congrArg (fun r => Ending.returned (.string r)) (by exact (Gs.Ux (.inl (by assumption)))), hF⟩
 refine bz ?_
 refine Z.f 1 ?_
 refine bz ?_
 refine pW (kT (by kernel_rfl) ah (by rfl)) (fun h4 => ?_) (fun h4 => ?_)
 refine bz ?_
 refine au (kz) ?_
 refine bz (aQ (aQ (aQ (aQ (bz (aT (aT (aF ?_))))))))
 refine Z.f 1 ?_
 refine pW (kT (by kernel_rfl) ah (by rfl)) (fun h5 => ?_) (fun h5 => ?_)
 refine aK ?_
 refine Z.f 0 ?_
 refine Z.l ah ?_
 refine aB (EU (by omega) (by omega)) (fun w6 U6 => ?_)
 refine au (NM (by kernel_rfl) (by kernel_rfl)) ?_
 replace hF := (hF.go0 U1).go0 U6
 exact ⟨congrArg (fun r => Ending.returned (.string r)) (by exact (congrArg Utf8.encode (Gs.Uy (by simp_all) (by assumption))).symm), hF⟩
 refine aF ?_
 refine Z.f 0 ?_
 refine Z.l ah ?_
 refine aB (Et (by omega) (by omega)) (fun w8 U8 => ?_)
 refine au (NM (by kernel_rfl) (by kernel_rfl)) ?_
 replace hF := (hF.go0 U1).go0 U8
 exact ⟨congrArg (fun r => Ending.returned (.string r)) (by exact absurd (Eq.trans (Eq.symm (show c.ge = true by assumption)) (show c.ge = false by assumption)) (by decide)), hF⟩
 refine bz ?_
 refine au (nP) ?_
 refine bz (aX ?_)
 refine Z.f 0 ?_
 refine aX ?_
 refine Z.l ah ?_
 refine aX ?_
 refine dU (O5) (fun w10 aW h10 => ?_) (fun w10 aW h10 => ?_)
 simp only [Z.d, Z.c] at h10
 refine aX ?_
 refine au (kz) ?_
 refine bz (aU (aT (aF ?_)))
 refine Z.f 1 ?_
 replace ah := aW.af ah
 refine pW (kT (by kernel_rfl) ah (by rfl)) (fun h11 => ?_) (fun h11 => ?_)
 refine aK ?_
 refine Z.f 0 ?_
 refine Z.l ah ?_
 refine aB (EU (by omega) (by omega)) (fun w12 df => ?_)
 refine au (NM (by kernel_rfl) (by kernel_rfl)) ?_
 replace hF := ((hF.go0 U1).go0 aW).go0 df
 exact ⟨congrArg (fun r => Ending.returned (.string r)) (by exact (congrArg Utf8.encode (Gs.Uy (by simp_all) (by assumption))).symm), hF⟩
 refine aF ?_
 refine Z.f 0 ?_
 refine Z.l ah ?_
 refine aB (Et (by omega) (by omega)) (fun sJ dm => ?_)
 refine au (NM (by kernel_rfl) (by kernel_rfl)) ?_
 replace hF := ((hF.go0 U1).go0 aW).go0 dm
 exact ⟨congrArg (fun r => Ending.returned (.string r)) (by exact (congrArg Utf8.encode (Gs.ad7 (by simp_all) (by simp_all) (by omega))).symm), hF⟩
 simp only [Z.d, Z.c] at h10
 refine aX ?_
 refine au (nP) ?_
 refine bz (aU (aT (aK ?_)))
 replace hF := (hF.go0 U1).go0 aW
 exact ⟨congrArg (fun r => Ending.returned (.string r)) (by exact (Gs.Ux (.inr ⟨by assumption, by omega⟩))), hF⟩
theorem Ip {b : Int} {w : World} (hb : 0 ≤ b ∧ b ≤ 255) :
    oX 81 #[Z.u b] w fun e w' => e = .returned (Z.i (Gs.lm b)) ∧ aA no w w' := by
 refine F81.calls ?_
 unfold F81
 have hF : aA no w w := Fr.refl _ _ _
 refine bP (fun g w' => (g 3 = Z.i (Gs.lm b)) ∧ (aA no w w')) (fun J1 hJ1 => ?_) (fun gJ1 jK hI => ?_)
 refine az (geq _ _ _ _) (fun h1 => ?_) (fun h1 => ?_)
 refine aX (aX ?_)
 refine az (leq _ _ _ _) (fun h2 => ?_) (fun h2 => ?_)
 refine aU (aK ?_)
 refine au (qM _ (by omega)) ?_
 refine au (kw (by kernel_rfl) (by kernel_rfl) (by omega)) ?_
 refine hJ1 _ _ ?_
 exact ⟨(congrArg (Value.int .i64) (by unfold Gs.lm; (rw [if_pos (by omega)] <;> omega))), hF⟩
 refine aU (aF ?_)
 refine az (geq _ _ _ _) (fun h3 => ?_) (fun h3 => ?_)
 refine aX (aX ?_)
 refine az (leq _ _ _ _) (fun h4 => ?_) (fun h4 => ?_)
 refine aU (aK ?_)
 refine au (qM _ (by omega)) ?_
 refine au (kw (by kernel_rfl) (by kernel_rfl) (by omega)) ?_
 refine au (dL _ (by omega)) ?_
 refine hJ1 _ _ ?_
 exact ⟨(congrArg (Value.int .i64) (by unfold Gs.lm; (rw [if_pos (by omega)] <;> omega))), hF⟩
 refine aU (aF ?_)
 refine az (geq _ _ _ _) (fun h5 => ?_) (fun h5 => ?_)
 refine aX (aX ?_)
 refine az (leq _ _ _ _) (fun h6 => ?_) (fun h6 => ?_)
 refine aU (aK ?_)
 refine au (qM _ (by omega)) ?_
 refine au (kw (by kernel_rfl) (by kernel_rfl) (by omega)) ?_
 refine au (dL _ (by omega)) ?_
 refine hJ1 _ _ ?_
 exact ⟨(congrArg (Value.int .i64) (by unfold Gs.lm; (rw [if_pos (by omega)] <;> omega))), hF⟩
 refine aU (aF ?_)
 refine az (geq _ _ _ _) (fun h7 => ?_) (fun h7 => ?_)
 refine aX (aX ?_)
 refine az (leq _ _ _ _) (fun h8 => ?_) (fun h8 => ?_)
 refine aU (aK ?_)
 refine au (qM _ (by omega)) ?_
 refine au (kw (by kernel_rfl) (by kernel_rfl) (by omega)) ?_
 refine au (dL _ (by omega)) ?_
 refine hJ1 _ _ ?_
 exact ⟨(congrArg (Value.int .i64) (by unfold Gs.lm; (rw [if_pos (by omega)] <;> omega))), hF⟩
 refine aU (aF ?_)
 refine hJ1 _ _ ?_
 exact ⟨(congrArg (Value.int .i64) (by unfold Gs.lm; (rw [if_neg (by omega), if_neg (by omega), if_neg (by omega), if_neg (by omega)]))), hF⟩
 refine aQ (aQ (aT (aF ?_)))
 refine hJ1 _ _ ?_
 exact ⟨(congrArg (Value.int .i64) (by unfold Gs.lm; (rw [if_pos (by omega)] <;> omega))), hF⟩
 refine aQ (aQ (aT (aF ?_)))
 refine az (geq _ _ _ _) (fun h9 => ?_) (fun h9 => ?_)
 refine aX (aX ?_)
 refine az (leq _ _ _ _) (fun h10 => ?_) (fun h10 => ?_)
 refine aU (aK ?_)
 refine au (qM _ (by omega)) ?_
 refine au (kw (by kernel_rfl) (by kernel_rfl) (by omega)) ?_
 refine au (dL _ (by omega)) ?_
 refine hJ1 _ _ ?_
 exact ⟨(congrArg (Value.int .i64) (by unfold Gs.lm; (rw [if_pos (by omega)] <;> omega))), hF⟩
 refine aU (aF ?_)
 refine hJ1 _ _ ?_
 exact ⟨(congrArg (Value.int .i64) (by unfold Gs.lm; (rw [if_pos (by omega)] <;> omega))), hF⟩
 refine aQ (aQ (aT (aF ?_)))
 refine hJ1 _ _ ?_
 exact ⟨(congrArg (Value.int .i64) (by unfold Gs.lm; (rw [if_pos (by omega)] <;> omega))), hF⟩
 refine aQ (aQ (aT (aF ?_)))
 refine az (geq _ _ _ _) (fun h11 => ?_) (fun h11 => ?_)
 refine aX (aX ?_)
 refine az (leq _ _ _ _) (fun h12 => ?_) (fun h12 => ?_)
 refine aU (aK ?_)
 refine au (qM _ (by omega)) ?_
 refine au (kw (by kernel_rfl) (by kernel_rfl) (by omega)) ?_
 refine au (dL _ (by omega)) ?_
 refine hJ1 _ _ ?_
 exact ⟨(congrArg (Value.int .i64) (by unfold Gs.lm; (rw [if_pos (by omega)] <;> omega))), hF⟩
 refine aU (aF ?_)
 refine az (geq _ _ _ _) (fun h13 => ?_) (fun h13 => ?_)
 refine aX (aX ?_)
 refine az (leq _ _ _ _) (fun h14 => ?_) (fun h14 => ?_)
 refine aU (aK ?_)
 refine au (qM _ (by omega)) ?_
 refine au (kw (by kernel_rfl) (by kernel_rfl) (by omega)) ?_
 refine au (dL _ (by omega)) ?_
 refine hJ1 _ _ ?_
 exact ⟨(congrArg (Value.int .i64) (by unfold Gs.lm; (rw [if_pos (by omega)] <;> omega))), hF⟩
 refine aU (aF ?_)
 refine hJ1 _ _ ?_
 exact ⟨(congrArg (Value.int .i64) (by unfold Gs.lm; (rw [if_pos (by omega)] <;> omega))), hF⟩
 refine aQ (aQ (aT (aF ?_)))
 refine hJ1 _ _ ?_
 exact ⟨(congrArg (Value.int .i64) (by unfold Gs.lm; (rw [if_pos (by omega)] <;> omega))), hF⟩
 refine aQ (aQ (aT (aF ?_)))
 refine az (geq _ _ _ _) (fun h15 => ?_) (fun h15 => ?_)
 refine aX (aX ?_)
 refine az (leq _ _ _ _) (fun h16 => ?_) (fun h16 => ?_)
 refine aU (aK ?_)
 refine au (qM _ (by omega)) ?_
 refine au (kw (by kernel_rfl) (by kernel_rfl) (by omega)) ?_
 refine au (dL _ (by omega)) ?_
 refine hJ1 _ _ ?_
 exact ⟨(congrArg (Value.int .i64) (by unfold Gs.lm; (rw [if_pos (by omega)] <;> omega))), hF⟩
 refine aU (aF ?_)
 refine hJ1 _ _ ?_
 exact ⟨(congrArg (Value.int .i64) (by unfold Gs.lm; (rw [if_pos (by omega)] <;> omega))), hF⟩
 refine aQ (aQ (aT (aF ?_)))
 refine hJ1 _ _ ?_
 exact ⟨(congrArg (Value.int .i64) (by unfold Gs.lm; (rw [if_pos (by omega)] <;> omega))), hF⟩
 refine aQ (aQ (aT (aF ?_)))
 refine az (geq _ _ _ _) (fun h17 => ?_) (fun h17 => ?_)
 refine aX (aX ?_)
 refine az (leq _ _ _ _) (fun h18 => ?_) (fun h18 => ?_)
 refine aU (aK ?_)
 refine au (qM _ (by omega)) ?_
 refine au (kw (by kernel_rfl) (by kernel_rfl) (by omega)) ?_
 refine au (dL _ (by omega)) ?_
 refine hJ1 _ _ ?_
 exact ⟨(congrArg (Value.int .i64) (by unfold Gs.lm; (rw [if_neg (by omega), if_pos (by omega)] <;> omega))), hF⟩
 refine aU (aF ?_)
 refine az (geq _ _ _ _) (fun h19 => ?_) (fun h19 => ?_)
 refine aX (aX ?_)
 refine az (leq _ _ _ _) (fun h20 => ?_) (fun h20 => ?_)
 refine aU (aK ?_)
 refine au (qM _ (by omega)) ?_
 refine au (kw (by kernel_rfl) (by kernel_rfl) (by omega)) ?_
 refine au (dL _ (by omega)) ?_
 refine hJ1 _ _ ?_
 exact ⟨(congrArg (Value.int .i64) (by unfold Gs.lm; (rw [if_neg (by omega), if_neg (by omega), if_pos (by omega)] <;> omega))), hF⟩
 refine aU (aF ?_)
 refine az (geq _ _ _ _) (fun h21 => ?_) (fun h21 => ?_)
 refine aX (aX ?_)
 refine az (leq _ _ _ _) (fun h22 => ?_) (fun h22 => ?_)
 refine aU (aK ?_)
 refine au (qM _ (by omega)) ?_
 refine au (kw (by kernel_rfl) (by kernel_rfl) (by omega)) ?_
 refine au (dL _ (by omega)) ?_
 refine hJ1 _ _ ?_
 exact ⟨(congrArg (Value.int .i64) (by unfold Gs.lm; (rw [if_pos (by omega)] <;> omega))), hF⟩
 refine aU (aF ?_)
 refine hJ1 _ _ ?_
 exact ⟨(congrArg (Value.int .i64) (by unfold Gs.lm; (rw [if_neg (by omega), if_neg (by omega), if_neg (by omega), if_neg (by omega)]))), hF⟩
 refine aQ (aQ (aT (aF ?_)))
 refine hJ1 _ _ ?_
 exact ⟨(congrArg (Value.int .i64) (by unfold Gs.lm; (rw [if_pos (by omega)] <;> omega))), hF⟩
 refine aQ (aQ (aT (aF ?_)))
 refine az (geq _ _ _ _) (fun h23 => ?_) (fun h23 => ?_)
 refine aX (aX ?_)
 refine az (leq _ _ _ _) (fun h24 => ?_) (fun h24 => ?_)
 refine aU (aK ?_)
 refine au (qM _ (by omega)) ?_
 refine au (kw (by kernel_rfl) (by kernel_rfl) (by omega)) ?_
 refine au (dL _ (by omega)) ?_
 refine hJ1 _ _ ?_
 exact ⟨(congrArg (Value.int .i64) (by unfold Gs.lm; (rw [if_pos (by omega)] <;> omega))), hF⟩
 refine aU (aF ?_)
 refine hJ1 _ _ ?_
 exact ⟨(congrArg (Value.int .i64) (by unfold Gs.lm; (rw [if_neg (by omega), if_neg (by omega), if_neg (by omega), if_neg (by omega)]))), hF⟩
 refine aQ (aQ (aT (aF ?_)))
 refine hJ1 _ _ ?_
 exact ⟨(congrArg (Value.int .i64) (by unfold Gs.lm; (rw [if_pos (by omega)] <;> omega))), hF⟩
 refine aQ (aQ (aT (aF ?_)))
 refine az (geq _ _ _ _) (fun h25 => ?_) (fun h25 => ?_)
 refine aX (aX ?_)
 refine az (leq _ _ _ _) (fun h26 => ?_) (fun h26 => ?_)
 refine aU (aK ?_)
 refine au (qM _ (by omega)) ?_
 refine au (kw (by kernel_rfl) (by kernel_rfl) (by omega)) ?_
 refine au (dL _ (by omega)) ?_
 refine hJ1 _ _ ?_
 exact ⟨(congrArg (Value.int .i64) (by unfold Gs.lm; (rw [if_pos (by omega)] <;> omega))), hF⟩
 refine aU (aF ?_)
 refine az (geq _ _ _ _) (fun h27 => ?_) (fun h27 => ?_)
 refine aX (aX ?_)
 refine az (leq _ _ _ _) (fun h28 => ?_) (fun h28 => ?_)
 refine aU (aK ?_)
 refine au (qM _ (by omega)) ?_
 refine au (kw (by kernel_rfl) (by kernel_rfl) (by omega)) ?_
 refine au (dL _ (by omega)) ?_
 refine hJ1 _ _ ?_
 exact ⟨(congrArg (Value.int .i64) (by unfold Gs.lm; (rw [if_pos (by omega)] <;> omega))), hF⟩
 refine aU (aF ?_)
 refine hJ1 _ _ ?_
 exact ⟨(congrArg (Value.int .i64) (by unfold Gs.lm; (rw [if_pos (by omega)] <;> omega))), hF⟩
 refine aQ (aQ (aT (aF ?_)))
 refine hJ1 _ _ ?_
 exact ⟨(congrArg (Value.int .i64) (by unfold Gs.lm; (rw [if_pos (by omega)] <;> omega))), hF⟩
 refine aQ (aQ (aT (aF ?_)))
 refine az (geq _ _ _ _) (fun h29 => ?_) (fun h29 => ?_)
 refine aX (aX ?_)
 refine az (leq _ _ _ _) (fun h30 => ?_) (fun h30 => ?_)
 refine aU (aK ?_)
 refine au (qM _ (by omega)) ?_
 refine au (kw (by kernel_rfl) (by kernel_rfl) (by omega)) ?_
 refine au (dL _ (by omega)) ?_
 refine hJ1 _ _ ?_
 exact ⟨(congrArg (Value.int .i64) (by unfold Gs.lm; (rw [if_neg (by omega), if_neg (by omega), if_neg (by omega), if_pos (by omega)] <;> omega))), hF⟩
 refine aU (aF ?_)
 refine hJ1 _ _ ?_
 exact ⟨(congrArg (Value.int .i64) (by unfold Gs.lm; (rw [if_neg (by omega), if_neg (by omega), if_neg (by omega), if_neg (by omega)]))), hF⟩
 refine aQ (aQ (aT (aF ?_)))
 refine hJ1 _ _ ?_
 exact ⟨(congrArg (Value.int .i64) (by unfold Gs.lm; (rw [if_neg (by omega), if_neg (by omega), if_neg (by omega), if_neg (by omega)]))), hF⟩
 obtain ⟨g3, hF⟩ := hI
 rw [g3]
 exact ⟨rfl, hF⟩
theorem CW {b : Int} {w : World} :
    oX 41 #[Z.u b] w fun e w' => e = .returned (.string (Gs.zD b)) ∧ aA no w w' := by
 refine F41.calls ?_
 unfold F41
 have hF : aA no w w := Fr.refl _ _ _
 refine az (cu _ _ _ _ _) (fun h1 => ?_) (fun h1 => ?_)
 refine aK ?_
 exact ⟨congrArg (fun r => Ending.returned (.string r)) (by unfold Gs.zD; rw [if_pos (by omega)]), hF⟩
 refine aF ?_
 refine az (cu _ _ _ _ _) (fun h3 => ?_) (fun h3 => ?_)
 refine aK ?_
 exact ⟨congrArg (fun r => Ending.returned (.string r)) (by unfold Gs.zD; rw [if_neg (by omega), if_pos (by omega)]), hF⟩
 refine aF ?_
 refine az (cu _ _ _ _ _) (fun h5 => ?_) (fun h5 => ?_)
 refine aK ?_
 exact ⟨congrArg (fun r => Ending.returned (.string r)) (by unfold Gs.zD; rw [if_neg (by omega), if_neg (by omega), if_pos (by omega)]), hF⟩
 refine aF ?_
 refine az (cu _ _ _ _ _) (fun h7 => ?_) (fun h7 => ?_)
 refine aK ?_
 exact ⟨congrArg (fun r => Ending.returned (.string r)) (by unfold Gs.zD; rw [if_neg (by omega), if_neg (by omega), if_neg (by omega), if_pos (by omega)]), hF⟩
 refine aF ?_
 refine az (cu _ _ _ _ _) (fun h9 => ?_) (fun h9 => ?_)
 refine aK ?_
 exact ⟨congrArg (fun r => Ending.returned (.string r)) (by unfold Gs.zD; rw [if_neg (by omega), if_neg (by omega), if_neg (by omega), if_neg (by omega), if_pos (by omega)]), hF⟩
 refine aF ?_
 exact ⟨congrArg (fun r => Ending.returned (.string r)) (by unfold Gs.zD; rw [if_neg (by omega), if_neg (by omega), if_neg (by omega), if_neg (by omega), if_neg (by omega)]), hF⟩
theorem yM {b : Int} {w : World} (hb : 0 ≤ b ∧ b ≤ 255) :
    oX 40 #[Z.u b] w fun e w' => e = .returned (.string (Gs.zF b)) ∧ aA no w w' := by
 refine F40.calls ?_
 unfold F40
 have hab := Gs.Xz b
 have hF : aA no w w := Fr.refl _ _ _
 refine aB (Ip hb) (fun w1 U1 => ?_)
 refine az (gtr _ _ _ _) (fun h2 => ?_) (fun h2 => ?_)
 refine aK ?_
 refine aB (ad4 (n := Gs.lm b) (by omega)) (fun w3 U3 => ?_)
 refine au (Px (by have h2 := Gs.Wu (n := Gs.lm b) (by omega); have h3 : (⟨#[80, 70]⟩ : ByteArray).size = 2 := rfl; omega)) ?_
 replace hF := (hF.go0 U1).go0 U3
 exact ⟨congrArg (fun r => Ending.returned (.string r)) (by unfold Gs.zF; rw [if_pos (by omega)]), hF⟩
 refine aF ?_
 refine aB (CW) (fun w6 U6 => ?_)
 replace hF := (hF.go0 U1).go0 U6
 exact ⟨congrArg (fun r => Ending.returned (.string r)) (by unfold Gs.zF; rw [if_neg (by omega)]), hF⟩
theorem NP {b : Int} {w : World} (hb : 0 ≤ b ∧ b ≤ 255) :
    oX 127 #[.agg #[Z.i 17, Z.u b]] w fun e w' => e = .returned (.string (Gs.zF b)) ∧ aA no w w' := by
 refine Zp.calls ?_
 unfold Zp
 have hF : aA no w w := Fr.refl _ _ _
 refine Z.x (#[Z.i 17, Z.u b]) (fun b1 w1 e1 ah _ U1 => ?_)
 refine Z.f 0 ?_
 refine Z.l ah ?_
 refine rD (cu _ _ _ _ _) (rfl) ?_
 refine aK ?_
 refine Z.f 1 ?_
 refine Z.l ah ?_
 refine aB (yM hb) (fun w2 U2 => ?_)
 replace hF := (hF.go0 U1).go0 U2
 exact ⟨rfl, hF⟩
theorem Fb {b : Int} {w : World} (hb : 0 ≤ b ∧ b ≤ 255) :
    oX 75 #[Z.u b] w fun e w' => e = .returned (.string (Gs.DW b)) ∧ aA no w w' := by
 refine F75.calls ?_
 unfold F75
 have hF : aA no w w := Fr.refl _ _ _
 refine au (bG (l := [(0, 1), (1, 1)]) (z := #[Z.i 0, Z.u 0]) (by kernel_rfl) (by (simp [eH, splice, fU, Value.cells, Gs.cv]; rfl))) ?_
 refine aB (NP hb) (fun w1 U1 => ?_)
 refine az (neS _ _ _ _) (fun h2 => ?_) (fun h2 => ?_)
 refine aK ?_
 replace hF := hF.go0 U1
 exact ⟨congrArg (fun r => Ending.returned (.string r)) (by unfold Gs.DW; rw [if_neg (by assumption)]), hF⟩
 refine aF ?_
 refine dK (S := no) (fun w4 U4 => ?_)
 refine bI (fun w' hw' => (afo _ _)) ?_
 refine bI (fun w' hw' => (afo _ _)) ?_
 refine bI (fun w' hw' => (abY _ (by omega))) ?_
 refine bI (fun w' hw' => (XA (s := Gs.Py) (by kernel_rfl) (by omega) (by omega) (by show _ ≤ ((16 : Nat) : Int); omega))) ?_
 refine bI (fun w' hw' => (WZ _ (by omega))) ?_
 refine bI (fun w' hw' => (WZ _ (by omega))) ?_
 refine bI (fun w' hw' => (abY _ (by omega))) ?_
 refine bI (fun w' hw' => (XA (s := Gs.Py) (by kernel_rfl) (by omega) (by omega) (by show _ ≤ ((16 : Nat) : Int); omega))) ?_
 refine bI (fun w' hw' => (Px (by have := Gs.QB hb.1; omega))) ?_
 refine aI (fun w8 U8 => ?_)
 replace hF := ((hF.go0 U1).go0 U4).go0 U8
 exact ⟨congrArg (fun r => Ending.returned (.string r)) (by unfold Gs.DW; (rw [if_pos (Classical.not_not.1 (by assumption))]; rfl)), hF⟩
end Go.Proofs.YtjdoakbadehicaaGreatDoor
end
section
namespace Gs
open Go
end Gs
end
section
namespace Gs
open Go
theorem Um {cs : List Cell} {k : Nat} {x : qV} (h : (allM cs)[k]? = some x) : ∃ s, (bW cs)[k]? = some s ∧ x = kP cs s := by
 have hk := (List.getElem?_eq_some_iff.1 h).1
 rw [Gt] at hk
 exact ⟨_, List.getElem?_eq_getElem hk, by have := Fa (List.getElem?_eq_getElem hk); rw [h] at this; exact Option.some.inj this⟩
theorem Un {cs : List Cell} {k s : Nat} (h : (bW cs)[k]? = some s) : (0 ≤ (s : Int) ∧ (s : Int) < cs.length) ∧ stB cs s = true := by
 have := qm.1 (List.mem_of_getElem? h)
 exact ⟨by omega, this.2⟩
theorem amg {cs : List Cell} {k : Nat} {x : qV} (hx : (allM cs)[k]? = some x) : (0 ≤ x.s ∧ x.s < cs.length) ∧ stB cs x.s = true := by
 obtain ⟨s, hs, rfl⟩ := Um hx
 exact Un hs
end Gs
end
section
namespace Gs
open Go
theorem all_in {cs : List Cell} {k : Nat} {x : qV} (hx : (allM cs)[k]? = some x) : (0 ≤ x.s ∧ x.s < cs.length) ∧ 0 ≤ x.l ∧ x.l < cs.length ∧ x = kP cs x.s := by
 obtain ⟨s, hs, rfl⟩ := Um hx
 obtain ⟨h0, hst⟩ := Un hs
 obtain ⟨L, h1, h2, _⟩ := len_eq h0 hst
 refine ⟨h0, ?_, ?_, rfl⟩
 ·show 0 ≤ vW cs s; omega
 ·show vW cs s < cs.length; omega
theorem aak {cs : List Cell} {k : Nat} {x : qV} (hx : (allM cs)[k]? = some x) : ((iJ cs.length x).length : Int) = x.l := by
 have h := all_in hx
 rw [uo h.1]; omega
end Gs
end
section
namespace Gs
open Go
def PE (p n : Int) : List Int := match wK p n with | some (a, b) => [a, b] | none => [0, 0]
def EC (f : qV) : Bool := decide (f.a % 2 = 1)
def ji (cs : List Cell) : List Int := (List.range cs.length).map Int.ofNat
def NW (cs : List Cell) : List (Int × List Cell) :=
 if allM cs = [] then (if Jj cs (ji cs) = [] then [] else [(-1, Jj cs (ji cs))])
 else ((allM cs).filter EC).map fun f => ((f.s + 1) % cs.length, Jj cs (iJ cs.length f))
def Ff (cs : List Cell) (f : qV) : List Int := 17 :: PE ((f.s + 1) % cs.length) cs.length ++ mi cs (iJ cs.length f)
def allB (cs : List Cell) (cur jV : Int) : List Int := jV :: PE cur cs.length ++ (if allM cs = [] then mi cs (ji cs) else ((allM cs).filter EC).flatMap (Ff cs))
theorem Qx {cs : List Cell} {k : Nat} {f : qV} (hf : (allM cs)[k]? = some f) : ∀ i ∈ iJ cs.length f, (bK cs i).st = false := by
 intro i hi
 obtain ⟨⟨h0, h1⟩, hl0, hl1, he⟩ := all_in hf
 obtain ⟨j, hj⟩ := List.getElem?_of_mem hi
 have hjl := (List.getElem?_eq_some_iff.1 hj).1
 rw [xZ hjl] at hj
 have hpl := aak hf
 have hlen : f.l = vW cs f.s := congrArg qV.l he
 cases hst : (bK cs i).st with
 | false => rfl
 | true =>
  exfalso
  have hi0 := Gh (show (iJ cs.length f)[j]? = some i from by rw [xZ hjl, hj])
  have h2 := Uh hi0 hst
  have h3 := Uo ⟨h0, h1⟩ (amg hf).2 (j := j + 1) (by omega)
  rw [Option.some.inj hj, h2] at h3
  have h4 := Option.some.inj hj
  rw [h3] at h4
  have hm := jY (f.s + ((j + 1 : Nat) : Int)) (N := cs.length) (by omega)
  by_cases hw : f.s + ((j + 1 : Nat) : Int) < cs.length
  ·rw [Int.emod_eq_of_lt (by omega) hw] at h4; omega
  ·rw [← Int.sub_emod_right, Int.emod_eq_of_lt (by omega) (by omega)] at h4; omega
theorem aaD {cs : List Cell} (h : allM cs = []) : ∀ i ∈ ji cs, (bK cs i).st = false := by
 intro i hi
 obtain ⟨j, hj, rfl⟩ := List.mem_map.1 hi
 cases hst : (bK cs (Int.ofNat j)).st with
 | false => rfl
 | true =>
  exfalso
  have hm : j ∈ bW cs := qm.2 ⟨List.mem_range.1 hj, hst⟩
  have : (allM cs).length = (bW cs).length := Gt cs
  rw [h] at this
  have h2 := List.length_pos_of_mem hm
  simp at this
  omega
end Gs
end
section
namespace Go.Sh
open Go
variable {P : Program} {R : Ending → World → Prop} {K : Value → World → Prop} {w : World}
def xW (T : Nat) (x : Int) : List PanicEntry := [{ v := .iface T (.agg #[.int .i64 x]), recovered := false }]
theorem gW {f : FuncId} {args : Array Value} {T : Nat} {D : Value → World → Prop} {E : Int → World → Prop}
  (hc : Calls P f args w fun e w' => (∃ v, e = .returned v ∧ D v w') ∨ ∃ x, e = .panicked (xW T x) ∧ E x w') (h : ∀ v w', D v w' → K v w') (hp : ∀ x w', E x w' → R (.panicked (xW T x)) w') : kR P f args w R K :=
 hc.mono fun e w' he => by
  rcases he with ⟨v, rfl, hd⟩ | ⟨x, rfl, hx⟩
  ·exact h v w' hd
  ·exact hp x w' hx
theorem yj {t : TypeId} {v : Value} (h : R (.panicked [{ v := .iface t v, recovered := false }]) w) : bi ((Instr.panic (.iface t v)).run P w) R K := by
 have : (Instr.panic (.iface t v)).run P w = .halt (.panic (.iface t v)) w := rfl
 rw [this]; exact h
theorem yh {t : TypeId} {x : Value} (h : P.concrete t = true) : (Instr.makeInterface t x).run P w = .ok (.iface t x) w := run_makeInterface w t x h
theorem uj {t n cap : Nat} {A : Option Addr} {xs : List Int} {k k1 : IntKind} {lo : Int} (ht : zh P t = some 1) (hr : Rd w A (vals k xs)) (hl : n = xs.length) (h0 : 0 ≤ lo) (h1 : lo ≤ n) (hc : n ≤ cap)
  (h : ∀ A', Rd w A' (vals k (xs.drop lo.toNat)) → (∀ k, fC A' k → fC A k) → K (.slice A' (n - lo.toNat) (cap - lo.toNat)) w) :
  bi ((Instr.sliceAt t (.slice A n cap) (some (.int k1 lo)) none none).run P w) R K := by
 unfold zh at ht
 split at ht
 ·rename_i e hu
  have hel : P.elem t = e := by simp [Program.elem, hu]
  have hu' : P.underlying t = some (.slice (P.elem t)) := by rw [hel]; exact hu
  have hr1 := run_slice_l (P := P) w t A n cap hu' k1 lo h0 h1
  rw [uk (P := P) (w := w) (by rw [hel]; exact ht)] at hr1
  have hr2 := run_sliceAt_slice (P := P) w t (.slice A n cap) (some (.int k1 lo)) none none hu'
  rw [hr1] at hr2
  refine au (v := sliced A lo.toNat n cap 1) (w' := w) hr2 (h _ ?_ ?_)
  ·subst hl
   by_cases he : cap = lo.toNat
   ·have : lo.toNat = xs.length := by omega
    left
    simp [vals, this]
   ·rw [if_neg he]
    cases A with
    | none =>
     rcases hr with hx | ⟨a, ha, _⟩
     ·have := congrArg List.length hx; rw [vals_length] at this; simp at this; subst this; left; simp [vals]
     ·cases ha
    | some a =>
     have := hr.drop lo.toNat
     rw [Nat.mul_one]
     simpa [vals, List.map_drop] using this
  ·intro k hk
   split at hk
   ·exact hk
   ·obtain ⟨a, ha, rfl⟩ := hk
    cases A with
    | none => cases ha
    | some a0 => cases ha; exact ⟨a0, rfl, by rw [add_block]⟩
 ·cases ht
def qy (T B : Nat) (w : World) (br : Nat) (bs : List Int) : Prop :=
 ∃ A c, w.heap[br]? = some (.cells #[.slice A bs.length c] T (0, 0)) ∧ Rd w A (vals .u8 bs) ∧ bs.length ≤ c ∧ Bs bs ∧ br < B ∧ (bs = [] ∨ ∀ k, fC A k → k < B ∧ k ≠ br)
theorem qy.lt {T B : Nat} {br : Nat} {bs : List Int} (h : qy T B w br bs) : br < B := by obtain ⟨A, c, _, _, _, _, h, _⟩ := h; exact h
theorem qy.bs {T B : Nat} {br : Nat} {bs : List Int} (h : qy T B w br bs) : Bs bs := by obtain ⟨A, c, _, _, _, h, _⟩ := h; exact h
theorem qy.upd {T B : Nat} {br : Nat} {bs : List Int} {S : Nat → Prop} {w' : World} (h : qy T B w br bs) (u : aA S w w') (hS : ∀ k, k < B → ¬ S k) : qy T B w' br bs := by
 obtain ⟨A, c, h1, h2, h3, h4, h5, h6⟩ := h
 refine ⟨A, c, u.get h1 (hS _ h5), h2.dY u ?_, h3, h4, h5, h6⟩
 exact h6.imp (fun e => by rw [e]; rfl) (fun h k hk => hS k (h k hk).1)
theorem qy.ai {T B : Nat} {br : Nat} {bs : List Int} {w' : World} (h : qy T B w br bs) (u : aA no w w') : qy T B w' br bs := h.upd u (fun _ _ h => h)
theorem qy.mono {T B B' : Nat} {br : Nat} {bs : List Int} (h : qy T B w br bs) (hB : B ≤ B') : qy T B' w br bs := by
 obtain ⟨A, c, h1, h2, h3, h4, h5, h6⟩ := h
 exact ⟨A, c, h1, h2, h3, h4, by omega, h6.imp_right fun h k hk => ⟨by have := (h k hk).1; omega, (h k hk).2⟩⟩
end Go.Sh
namespace Gs
open Go Go.Sh
structure It where
 at' : Int
 A : Option Addr
 cp : Nat
 cs : List Cell
def ie (x : It) : List Value := [.int .i64 x.at', .slice x.A x.cs.length x.cp]
theorem JY : Enc ie 2 := ⟨fun _ => rfl, fun a u hu => by
 simp only [ie, List.mem_cons, List.mem_nil_iff, or_false] at hu
 rcases hu with rfl | rfl <;> rfl, by decide⟩
def its (l : List It) : List (Int × List Cell) := l.map fun x => (x.at', x.cs)
def Cl (w : World) (l : List It) : Prop := ∀ x ∈ l, Rd w x.A (rows cv x.cs)
def uD (l : List It) (k : Nat) : Prop := ∃ x ∈ l, x.cs ≠ [] ∧ fC x.A k
def XH (l : List It) (B : Nat) : Prop := l = [] ∨ ∀ k, uD l k → k < B
theorem XH.ne {l : List It} {B : Nat} (h : XH l B) {b : Nat} (hb : B ≤ b) : l = [] ∨ ∀ k, uD l k → k ≠ b := h.imp_right fun h k hk => by have := h k hk; omega
theorem XH.mono {l : List It} {B B' : Nat} (h : XH l B) (hb : B ≤ B') : XH l B' := h.imp_right fun h k hk => by have := h k hk; omega
theorem amk {cs : List Cell} (h : cs ≠ []) : rows cv cs ≠ [] := fun e => by
 have := congrArg List.length e
 rw [iE wU] at this
 cases cs
 ·exact h rfl
 ·simp at this
theorem Cl.lt {w : World} {l : List It} (h : Cl w l) : XH l w.heap.size := by
 refine .inr fun k ⟨x, hx, hne, hk⟩ => ?_
 rcases (h x hx).lt with h2 | h2
 ·exact absurd h2 (amk hne)
 ·exact h2 k hk
theorem Cl.dY {S : Nat → Prop} {w w' : World} {l : List It} (h : Cl w l) (u : aA S w w') (hs : l = [] ∨ ∀ k, uD l k → ¬ S k) : Cl w' l := by
 intro x hx
 refine (h x hx).dY u ?_
 by_cases hc : x.cs = []
 ·left; rw [hc]; rfl
 ·right
  rcases hs with rfl | hs
  ·cases hx
  ·exact fun k hk => hs k ⟨x, hx, hc, hk⟩
theorem Cl.ai {w w' : World} {l : List It} (h : Cl w l) (u : aA no w w') : Cl w' l := h.dY u (.inr fun _ _ => id)
theorem Cl.aG {w w' : World} {l : List It} {b : Nat} (h : Cl w l) (u : aA (· = b) w w') (hs : l = [] ∨ ∀ k, uD l k → k ≠ b) : Cl w' l := h.dY u hs
theorem Cl.apart {w : World} {l : List It} (h : Cl w l) {b : Nat} (hb : b = w.heap.size) : l = [] ∨ ∀ k, uD l k → k ≠ b := h.lt.ne (by omega)
theorem Cl.get {w : World} {l : List It} (h : Cl w l) {k : Nat} {x : It} (hx : l[k]? = some x) : Rd w x.A (rows cv x.cs) := h x (List.mem_of_getElem? hx)
theorem Cl.nil (w : World) : Cl w [] := fun x hx => by cases hx
theorem Cl.snoc {w : World} {l : List It} {x : It} (h : Cl w l) (hx : Rd w x.A (rows cv x.cs)) : Cl w (l ++ [x]) := fun y hy => by
 rcases List.mem_append.1 hy with hy | hy
 ·exact h y hy
 ·rw [List.mem_singleton.1 hy]; exact hx
def Iw (l : List It) : Prop := ∀ x ∈ l, jh x.cs
theorem Iw.get {l : List It} (h : Iw l) {k : Nat} {x : It} (hx : l[k]? = some x) : jh x.cs := h x (List.mem_of_getElem? hx)
theorem JZ (l : List It) : (its l).length = l.length := by simp [its]
theorem aeg (l : List It) (x : It) : its (l ++ [x]) = its l ++ [(x.at', x.cs)] := by simp [its]
def fB : List Int → Except Int (Int × List Int)
 | [] => .error 20
 | c :: r => .ok (c, r)
theorem ad8 {bs : List Int} {c : Int} (h : bs[0]? = some c) : fB bs = .ok (c, bs.drop 1) := by
 cases bs with
 | nil => cases h
 | cons a r => cases h; rfl
theorem dQ {bs r : List Int} {c : Int} (h : fB bs = .ok (c, r)) : bs = c :: r := by
 cases bs with
 | nil => cases h
 | cons a l => cases h; rfl
theorem qN {bs : List Int} {x : Int} (h : fB bs = .error x) : bs = [] ∧ x = 20 := by
 cases bs with
 | nil => cases h; exact ⟨rfl, rfl⟩
 | cons a l => cases h
end Gs
namespace Gs
open Go Go.Sh
theorem ajR {S' : World} {v v' : Value} {l : List It} (old : l = [] ∨ ∀ k, uD l k → ¬ aH v k) (lt : Cl S' l) (hA : ∀ k, aH v' k → aH v k ∨ S'.heap.size ≤ k) : l = [] ∨ ∀ k, uD l k → ¬ aH v' k := by
 rcases old with h | h
 ·exact .inl h
 ·rcases lt.lt with h2 | h2
  ·exact .inl h2
  ·refine .inr fun k hk ho => ?_
   rcases hA k ho with h3 | h3
   ·exact h k hk h3
   ·have := h2 k hk; omega
theorem LQ {l : List It} {x : It} {k : Nat} (h : uD (l ++ [x]) k) : uD l k ∨ (x.cs ≠ [] ∧ fC x.A k) := by
 obtain ⟨y, hy, h⟩ := h
 rcases List.mem_append.1 hy with hy | hy
 ·exact .inl ⟨y, hy, h⟩
 ·rw [List.mem_singleton.1 hy] at h; exact .inr h
def rdL (w : World) (br : Nat) : Nat := match w.heap[br]? with | some (.cells cs _ _) => (match cs.toList with | Value.slice _ n _ :: _ => n | _ => 0) | _ => 0
theorem JW {T B : Nat} {w : World} {br : Nat} {bs : List Int} (h : qy T B w br bs) : rdL w br = bs.length := by
 obtain ⟨A, c, h, _⟩ := h
 unfold rdL; rw [h]
theorem ab2 {l : List Int} (h : ¬ (0 : Int) < (l.length : Nat)) : l.head? = none := by
 have : l = [] := List.length_eq_zero_iff.1 (by omega)
 rw [this]; rfl
theorem UA {l : List Int} {x : Int} (hx : l[0]? = some x) : l.head? = some x := by rw [List.head?_eq_getElem?]; exact hx
theorem XD {l : List Int} {x : Int} (hx : l[0]? = some x) (h : x ≠ 17) : ¬ (l.head? = none ∨ l.head? = some 17) := by
 rw [UA hx]
 rintro (e | e)
 ·cases e
 ·exact h (Option.some.inj e)
def Gw (acc : List Cell) : Except Int (List Cell × List Int) → Except Int (List Cell × List Int)
 | .ok (xs, r) => .ok (acc ++ xs, r)
 | .error e => .error e
theorem aea (x : Except Int (List Cell × List Int)) : x = Gw [] x := by cases x <;> rfl
theorem ack {l r : List Int} {x : Cell} (h : ¬ (l.head? = none ∨ l.head? = some 17)) (hx : uu l = .ok (x, r)) : iO l = Gw [x] (iO r) := by
 conv => lhs; unfold iO
 rw [if_neg h]
 split
 ·rename_i e he; rw [hx] at he; cases he
 ·rename_i y r1 he
  rw [hx] at he
  cases he
  cases iO r <;> rfl
theorem aaA {l : List Int} {e : Int} (h : ¬ (l.head? = none ∨ l.head? = some 17)) (hx : uu l = .error e) : iO l = .error e := by
 unfold iO
 rw [if_neg h]
 split
 ·rename_i e2 he; rw [hx] at he; cases he; rfl
 ·rename_i y r1 he; rw [hx] at he; cases he
theorem aaB {l : List Int} (h : l.head? = none ∨ l.head? = some 17) : iO l = .ok ([], l) := by unfold iO; rw [if_pos h]
theorem ab1 {bs l r : List Int} {acc : List Cell} {x : Cell} (hi : iO bs = Gw acc (iO l)) (h : ¬ (l.head? = none ∨ l.head? = some 17)) (hx : uu l = .ok (x, r)) : iO bs = Gw (acc ++ [x]) (iO r) := by
 rw [hi, ack h hx]
 cases iO r <;> simp [Gw]
theorem Uz {bs l : List Int} {acc : List Cell} (hi : iO bs = Gw acc (iO l)) (h : l.head? = none ∨ l.head? = some 17) : iO bs = .ok (acc, l) := by
 rw [hi, aaB h]; simp [Gw]
theorem aeb {bs l : List Int} {acc : List Cell} {e : Int} (hi : iO bs = Gw acc (iO l)) (h : ¬ (l.head? = none ∨ l.head? = some 17)) (hx : uu l = .error e) : iO bs = .error e := by
 rw [hi, aaA h hx]; rfl
theorem aap {r : List Int} {x : Int} (h : fB r = .error x) : uu (8 :: r) = .error x := by
 obtain ⟨rfl, rfl⟩ := qN h; rfl
theorem jh.snoc {l : List Cell} {x : Cell} (h : jh l) (hx : 0 ≤ x.b ∧ x.b ≤ 255) : jh (l ++ [x]) := fun y hy => by
 rcases List.mem_append.1 hy with hy | hy
 ·exact h y hy
 ·rw [List.mem_singleton.1 hy]; exact hx
theorem Iw.snoc {l : List It} {x : It} (h : Iw l) (hx : jh x.cs) : Iw (l ++ [x]) := fun y hy => by
 rcases List.mem_append.1 hy with hy | hy
 ·exact h y hy
 ·rw [List.mem_singleton.1 hy]; exact hx
def aec (p : Int) : Except Int (List Cell × List Int) → Except Int ((Int × List Cell) × List Int)
 | .ok (xs, r) => .ok ((p, xs), r)
 | .error e => .error e
theorem QG (r : List Int) : rF (17 :: r) = match kK r with | .error e => .error e | .ok (p, r) => (match iO r with | .error e => .error e | .ok (xs, r') => .ok ((p, xs), r')) := rfl
theorem aed {l r r2 : List Int} {c p : Int} (h : fB l = .ok (c, r)) (hc : c = 17) (hp : kK r = .ok (p, r2)) : rF l = aec p (iO r2) := by
 rw [dQ h, hc, QG, hp]
 dsimp only
 cases iO r2 <;> rfl
theorem aar {l r : List Int} {c e : Int} (h : fB l = .ok (c, r)) (hc : c = 17) (hp : kK r = .error e) : rF l = .error e := by
 rw [dQ h, hc, QG, hp]
theorem aee {l : List Int} {x : Int} (hx : l[0]? = some x) (h : ¬ x = 17) : rF l = aec (-1) (iO l) := by
 unfold rF
 rw [if_neg (by rw [UA hx]; exact fun e => h (Option.some.inj e))]
 cases iO l <;> rfl
def Gx (acc : List (Int × List Cell)) : Except Int (List (Int × List Cell)) → Except Int (List (Int × List Cell))
 | .ok xs => .ok (acc ++ xs)
 | .error e => .error e
theorem acl {l r : List Int} {x : Int × List Cell} (h : l ≠ []) (hx : rF l = .ok (x, r)) : jR l = Gx [x] (jR r) := by
 conv => lhs; unfold jR
 rw [dif_neg h]
 split
 ·rename_i e he; rw [hx] at he; cases he
 ·rename_i y r1 he
  rw [hx] at he
  cases he
  cases jR r <;> rfl
theorem aaC {l : List Int} {e : Int} (h : l ≠ []) (hx : rF l = .error e) : jR l = .error e := by
 unfold jR
 rw [dif_neg h]
 split
 ·rename_i e2 he; rw [hx] at he; cases he; rfl
 ·rename_i y r1 he; rw [hx] at he; cases he
theorem ab6 {bs l r : List Int} {acc : List (Int × List Cell)} {x : Int × List Cell} (hi : jR bs = Gx acc (jR l)) (h : l ≠ []) (hx : rF l = .ok (x, r)) : jR bs = Gx (acc ++ [x]) (jR r) := by
 rw [hi, acl h hx]
 cases jR r <;> simp [Gx]
theorem aei {bs l : List Int} {acc : List (Int × List Cell)} (hi : jR bs = Gx acc (jR l)) (h : l = []) : jR bs = .ok acc := by
 rw [hi, h]; unfold jR; rw [dif_pos rfl]; simp [Gx]
theorem aeh {bs l : List Int} {acc : List (Int × List Cell)} {e : Int} (hi : jR bs = Gx acc (jR l)) (h : l ≠ []) (hx : rF l = .error e) : jR bs = .error e := by
 rw [hi, aaC h hx]; rfl
theorem aef (x : Except Int (List (Int × List Cell))) : x = Gx [] x := by cases x <;> rfl
theorem aas {bs r : List Int} {a : Int} (h : fB bs = .ok (a, r)) (hr : r = []) : wS bs = .ok ⟨a, true, 0, []⟩ := by
 rw [dQ h, hr]; rfl
theorem ab8 {bs r : List Int} {a e : Int} (h : fB bs = .ok (a, r)) (hr : r ≠ []) (hp : kK r = .error e) : wS bs = .error e := by
 rw [dQ h]
 unfold wS
 dsimp only
 rw [if_neg hr, hp]
theorem ahK {bs r r2 : List Int} {a c : Int} {xs : List (Int × List Cell)} (h : fB bs = .ok (a, r)) (hr : r ≠ []) (hp : kK r = .ok (c, r2)) (hx : jR r2 = .ok xs) : wS bs = .ok ⟨a, false, c, xs⟩ := by
 rw [dQ h]
 unfold wS
 dsimp only
 rw [if_neg hr, hp]
 dsimp only
 rw [hx]
theorem ab7 {bs r r2 : List Int} {a c e : Int} (h : fB bs = .ok (a, r)) (hr : r ≠ []) (hp : kK r = .ok (c, r2)) (hx : jR r2 = .error e) : wS bs = .error e := by
 rw [dQ h]
 unfold wS
 dsimp only
 rw [if_neg hr, hp]
 dsimp only
 rw [hx]
theorem ajS {bs : List Int} {e : Int} (h : fB bs = .error e) : wS bs = .error e := by obtain ⟨rfl, rfl⟩ := qN h; rfl
theorem ad9 {c : Int} {r : List Int} (h : fJ c = false) (h8 : c ≠ 8) : uu (c :: r) = .error 21 := by
 unfold uu
 dsimp only
 rw [if_neg (by rw [h]; decide), if_pos h8]
theorem NR {bs r : List Int} {c x : Int} (h : fB bs = .ok (c, r)) (hx : bs[0]? = some x) : c = x := by
 rw [dQ h] at hx; exact Option.some.inj hx
theorem ab4 {l : List It} {y : It} {b n c : Nat} (h : l = [] ∨ ∀ k, uD l k → k ≠ b) (hx : ¬ aH (.slice y.A n c) b) : l ++ [y] = [] ∨ ∀ k, uD (l ++ [y]) k → k ≠ b := by
 refine .inr fun k hk e => ?_
 rcases LQ hk with h2 | ⟨_, a, ea, ek⟩
 ·rcases h with rfl | h
  ·obtain ⟨x, hx, _⟩ := h2; cases hx
  ·exact h k h2 e
 ·exact hx (by rw [ea]; subst e; subst ek; rfl)
theorem ahJ {l : List It} {y : It} {v : Value} {n c : Nat} (h : l = [] ∨ ∀ k, uD l k → ¬ aH v k) (hx : ∀ k, aH v k → ¬ aH (.slice y.A n c) k) : l ++ [y] = [] ∨ ∀ k, uD (l ++ [y]) k → ¬ aH v k := by
 refine .inr fun k hk ho => ?_
 rcases LQ hk with h2 | ⟨_, a, ea, ek⟩
 ·rcases h with rfl | h
  ·obtain ⟨x, hx, _⟩ := h2; cases hx
  ·exact h k h2 ho
 ·exact hx k ho (by rw [ea]; subst ek; rfl)
theorem ajO {l : List It} {y : It} {B n c : Nat} {w : World} {e size : Nat} {xs : List Value} (h : ∀ k, uD l k → B ≤ k) (ho : Own B w e size (.slice y.A n c) xs) : ∀ k, uD (l ++ [y]) k → B ≤ k := fun k hk =>
 (LQ hk).elim (h k) fun ⟨_, a, ea, ek⟩ => (Own.ge ho (k := k) (by rw [ea]; subst ek; rfl)).1
theorem UB {α : Type} {l : List α} (h : ¬ ((l.length : Nat) : Int) = 0) : l ≠ [] := fun e => h (by rw [e]; rfl)
theorem ahH {α : Type} {l : List α} (h : (0 : Int) < ((l.length : Nat) : Int)) : l ≠ [] := fun e => by rw [e] at h; simp at h
end Gs
namespace Go.Sh
open Go
theorem ahP {r : Result Unit} {K : Value → World → Prop} (h : tC r (fun _ _ => False) K) : ∃ w', r = .ok () w' ∧ K undef w' := by
 cases r with
 | ok u w' => exact ⟨w', rfl, h⟩
 | halt s w' => cases s <;> exact h.elim
theorem SV {P : Program} {w : World} {t n : Nat} {v : Value} {b : Nat} {T : TypeId} {cs : Array Value} (hn : aZ P t = some n) (hv : v.cells.size = n) (h1 : v.cells.all (·.oneCell') = true) (hb : w.heap[b]? = some (.cells cs T (0, 0))) (hl : cs.size = n) :
  ∃ w', (Instr.storeAt t (.pointer (some ⟨b, 0, none⟩)) v).run P w = .ok () w' ∧ w'.heap[b]? = some (.cells v.cells T (0, 0)) ∧ aA (· = b) w w' :=
 ahP (K := fun _ w' => w'.heap[b]? = some (.cells v.cells T (0, 0)) ∧ aA (· = b) w w') (ig (o := 0) (cs' := v.cells) hn hv h1 hb (by omega) (by
  have h2 : cs.toList.drop (0 + n) = [] := List.drop_eq_nil_of_le (by simp; omega)
  rw [h2]; simp) (fun w' a _ c => ⟨a, c⟩))
end Go.Sh
end
section
namespace Go.Sh
open Go
theorem vG.mono {A : Option Addr} {xs : List Value} {B B' : Nat} (h : vG A xs B') (hb : B ≤ B') : vG A xs B := h.imp_right fun h k hk => by have := h k hk; omega
end Go.Sh
namespace Gs
open Go Go.Sh
def UD (l : List It) (B : Nat) : Prop := l = [] ∨ ∀ k, uD l k → B ≤ k
theorem UD.ne {l : List It} {B b : Nat} (h : UD l B) (hb : b < B) : l = [] ∨ ∀ k, uD l k → k ≠ b := h.imp_right fun h k hk => by have := h k hk; omega
theorem UD.mono {l : List It} {B B' : Nat} (h : UD l B') (hb : B ≤ B') : UD l B := h.imp_right fun h k hk => by have := h k hk; omega
end Gs
namespace Go.Sh
open Go
variable {P : Program} {R : Ending → World → Prop} {K : Value → World → Prop} {w : World}
end Go.Sh
namespace Gs
open Go Go.Sh
end Gs
namespace Gs
open Go Go.Sh
end Gs
namespace Gs
open Go Go.Sh
end Gs
end
section
namespace Gs
open Go
theorem NY (p n : Int) : PE p n = [(pR p n).1, (pR p n).2.1] := by
 unfold PE pR
 cases h : wK p n with
 | none => rfl
 | some x => obtain ⟨a, b⟩ := x; rfl
theorem aeq (p n : Int) : (PE p n).length = 2 := by rw [NY]; rfl
theorem aer {c : Cell} (h : c.ge = true) (h2 : c.b < 64) : rG c = [8, 64] := by unfold rG; rw [if_pos h, if_pos h2]
theorem aes {c : Cell} (h : c.ge = true) (h2 : ¬ c.b < 64) : rG c = [8, c.b] := by unfold rG; rw [if_pos h, if_neg h2]
theorem UN {c : Cell} (h : c.ge = false) (h2 : ¬ fJ c.b = true) : rG c = [64] := by unfold rG; rw [if_neg (by rw [h]; decide), if_neg h2]
theorem UO {c : Cell} (h : c.ge = false) (h2 : fJ c.b = true) : rG c = [c.b] := by unfold rG; rw [if_neg (by rw [h]; decide), if_pos h2]
theorem Jk (c : Cell) : (rG c).length ≤ 2 := by
 unfold rG
 repeat' split
 all_goals simp
theorem ahQ {c : Cell} (h : c.b = 0) : (!c.ge) = qh c := by unfold qh; rw [decide_eq_true h]; rfl
theorem ahR {c : Cell} (h : ¬ c.b = 0) : false = qh c := by unfold qh; rw [decide_eq_false h]; rfl
theorem ahS {b : Int} (h : ¬ zD b = ⟨#[]⟩) : decide (¬ b = 125) = decide (b = 109 ∨ b = 108 ∨ b = 110 ∨ b = 107) := by
 refine decide_eq_decide.2 ⟨fun h2 => ?_, fun h2 => by omega⟩
 unfold zD at h
 repeat' split at h
 all_goals first | omega | exact absurd rfl h
theorem ahT {b : Int} (h : ¬ ¬ zD b = ⟨#[]⟩) : false = decide (b = 109 ∨ b = 108 ∨ b = 110 ∨ b = 107) := by
 have h := Classical.not_not.1 h
 refine (decide_eq_false fun h2 => ?_).symm
 unfold zD at h
 repeat' split at h
 all_goals first | omega | exact absurd h (by decide)
theorem QH (cs : List Cell) (l m : List Int) : mi cs (l ++ m) = mi cs l ++ mi cs m := by unfold mi; rw [List.map_append, List.filter_append, List.flatMap_append]
theorem acm {cs : List Cell} {l : List Int} {k : Nat} {x : Int} (hx : l[k]? = some x) (h : qh (bK cs x) = true) : mi cs (l.take k) = mi cs (l.take (k + 1)) := by
 rw [← uf hx, QH]
 unfold mi; simp [h]
theorem acn {cs : List Cell} {l : List Int} {k : Nat} {x : Int} (hx : l[k]? = some x) (h : qh (bK cs x) = false) : mi cs (l.take k) ++ rG (bK cs x) = mi cs (l.take (k + 1)) := by
 rw [← uf hx, QH]
 unfold mi; simp [h]
theorem Jl {α : Type} {f : α → List Int} {b : Nat} (hf : ∀ x, (f x).length ≤ b) : ∀ l : List α, (l.flatMap f).length ≤ b * l.length
 | [] => by simp
 | x :: l => by
  rw [List.flatMap_cons, List.length_append, List.length_cons, Nat.mul_add, Nat.mul_one]
  have := Jl hf l
  have := hf x
  omega
theorem GH (cs : List Cell) (l : List Int) : (mi cs l).length ≤ 2 * l.length := by
 unfold mi
 refine Nat.le_trans (Jl Jk _) ?_
 have := List.length_filter_le (fun c => !qh c) (l.map (bK cs))
 rw [List.length_map] at this
 omega
theorem zS (cs : List Cell) : (ji cs).length = cs.length := by simp [ji]
theorem BC {cs : List Cell} {k : Nat} (h : k < cs.length) : (ji cs)[k]? = some (k : Int) := by simp [ji, h]
theorem ahU {cs : List Cell} {k : Nat} (hk : k < cs.length) (h : qh (bK cs k) = true) : mi cs ((ji cs).take k) = mi cs ((ji cs).take (k + 1)) := acm (BC hk) h
theorem ahV {cs : List Cell} {k : Nat} (hk : k < cs.length) (h : qh (bK cs k) = false) : mi cs ((ji cs).take k) ++ rG (bK cs k) = mi cs ((ji cs).take (k + 1)) := acn (BC hk) h
def wV (cs : List Cell) (k : Nat) : List Int := (((allM cs).take k).filter EC).flatMap (Ff cs)
def Eb (cs : List Cell) (f : qV) : List Int := 17 :: PE ((f.s + 1) % cs.length) cs.length
theorem XI (cs : List Cell) (f : qV) : Eb cs f = [17] ++ [(pR ((f.s + 1) % cs.length) cs.length).1, (pR ((f.s + 1) % cs.length) cs.length).2.1] := by unfold Eb; rw [NY]; rfl
theorem QI (cs : List Cell) (f : qV) : Ff cs f = Eb cs f ++ mi cs (iJ cs.length f) := by unfold Ff Eb; rfl
theorem aj3 {cs : List Cell} {k s : Nat} (hx : (bW cs)[k]? = some s) (h : (kP cs s).a % 2 = 1) : wV cs k ++ (Eb cs (kP cs s) ++ mi cs (iJ cs.length (kP cs s))) = wV cs (k + 1) := by
 unfold wV
 rw [← uf (Fa hx), List.filter_append, List.flatMap_append]
 have : EC (kP cs s) = true := decide_eq_true h
 simp [this, QI]
theorem aj6 {cs : List Cell} {k s : Nat} (hx : (bW cs)[k]? = some s) (h : ¬ (kP cs s).a % 2 = 1) : wV cs k = wV cs (k + 1) := by
 unfold wV
 rw [← uf (Fa hx), List.filter_append, List.flatMap_append]
 have : EC (kP cs s) = false := decide_eq_false h
 simp [this]
theorem aaE {cs : List Cell} (h : cs.length ≤ 4096) (f : qV) : (Ff cs f).length ≤ 8200 := by
 rw [QI]
 unfold Eb
 have h1 := GH cs (iJ cs.length f)
 have h2 := DL cs.length f
 simp only [List.length_append, List.length_cons, aeq]
 omega
theorem UQ {cs : List Cell} (h : cs.length ≤ 4096) (k : Nat) : (wV cs k).length ≤ 8200 * k := by
 unfold wV
 refine Nat.le_trans (Jl (aaE h) _) ?_
 have h1 := List.length_filter_le EC ((allM cs).take k)
 rw [List.length_take] at h1
 exact Nat.mul_le_mul_left _ (by omega)
theorem aet (cs : List Cell) : wV cs (bW cs).length = ((allM cs).filter EC).flatMap (Ff cs) := by
 unfold wV
 rw [List.take_of_length_le (by rw [Gt]; exact Nat.le_refl _)]
theorem aml {cs : List Cell} (hp : 0 < cs.length) (h : 0 ≤ lM cs 0 1) : allM cs ≠ [] := by
 obtain ⟨k, _, h1, h2⟩ := Ja (cs := cs) (at' := 0) (step := 1) ⟨by omega, by omega⟩ (by omega)
 intro e
 have hb := jY (0 + (k : Int) * 1) hp
 rw [h1] at h2
 have hm : (0 + (k : Int) * 1) % cs.length ∈ uT cs := Ez.2 ⟨hb, h2.1⟩
 have : allM cs = (uT cs).map (kP cs) := rfl
 rw [this] at e
 rw [List.map_eq_nil_iff.1 e] at hm
 cases hm
theorem amm {cs : List Cell} (hp : 0 < cs.length) (h : ¬ 0 ≤ lM cs 0 1) : allM cs = [] := by
 have := Ia (cs := cs) (at' := 0) ⟨by omega, by omega⟩ (by omega)
 unfold allM
 rw [List.map_eq_nil_iff]
 cases hs : uT cs with
 | nil => rfl
 | cons s l =>
  exfalso
  obtain ⟨h1, h2⟩ := Ez.1 (show s ∈ uT cs by rw [hs]; simp)
  rw [this s h1] at h2
  cases h2
theorem aj7 {cs : List Cell} {cur jV : Int} (h : allM cs ≠ []) : [jV] ++ [(pR cur cs.length).1, (pR cur cs.length).2.1] ++ wV cs (bW cs).length = allB cs cur jV := by
 unfold allB
 rw [if_neg h, NY, aet]; rfl
theorem aj8 {cs : List Cell} {cur jV : Int} (h : allM cs = []) : [jV] ++ [(pR cur cs.length).1, (pR cur cs.length).2.1] ++ mi cs (ji cs) = allB cs cur jV := by
 unfold allB
 rw [if_pos h, NY]; rfl
theorem aco {cs : List Cell} (h : cs.length ≤ 4096) : (wV cs (bW cs).length).length ≤ 33587200 := by
 have h1 := UQ h (bW cs).length
 have h2 := uG cs
 have : 8200 * (bW cs).length ≤ 8200 * 4096 := Nat.mul_le_mul_left _ (by omega)
 omega
def readB (cs : List Cell) (cur jV : Int) : List Int := if jV = 109 ∨ jV = 108 ∨ jV = 110 ∨ jV = 107 then [jV] else allB cs cur jV
theorem XJ {cs : List Cell} {cur jV : Int} (h : jV = 109 ∨ jV = 108 ∨ jV = 110 ∨ jV = 107) : readB cs cur jV = [jV] := if_pos h
theorem ahW {cs : List Cell} {cur jV : Int} (h : ¬ (jV = 109 ∨ jV = 108 ∨ jV = 110 ∨ jV = 107)) : readB cs cur jV = allB cs cur jV := if_neg h
end Gs
namespace Go.Sh
open Go
theorem aeu {P : Program} {w : World} {t n m b : Nat} (hn : (match P.underlying t with | some (.array n e) => (aZ P e).map (n, ·) | _ => none) = some (n, m)) :
  (Instr.sliceAt t (.pointer (some ⟨b, 0, none⟩)) none none none).run P w = .ok (.slice (some ⟨b, 0, none⟩) n n) w := by
 split at hn
 ·rename_i n' e hu
  cases hc : aZ P e with
  | none => rw [hc] at hn; cases hn
  | some s =>
   rw [hc] at hn
   obtain ⟨rfl, rfl⟩ : n' = n ∧ s = m := by simpa using hn
   have hl : P.arrayLen t = n' := by simp [Program.arrayLen, hu]
   have he : P.elem t = e := by simp [Program.elem, hu]
   have hu' : P.underlying t = some (.array (P.arrayLen t) (P.elem t)) := by rw [hl, he]; exact hu
   rw [run_sliceAt_array_all w t ⟨b, 0, none⟩ hu', uk (P := P) (w := w) (by rw [he]; exact hc)]
   simp only [Result.andThen, slicedAt, hl, Nat.zero_mul, Nat.sub_zero]
   by_cases h0 : n' = 0
   ·subst h0; rfl
   ·rw [if_neg h0]
    have : (⟨b, 0, none⟩ : Addr).add 0 = ⟨b, 0, none⟩ := by unfold Addr.add; split <;> simp_all
    rw [this]
 ·cases hn
end Go.Sh
end
section
namespace Gs
open Go Go.Sh
def QF (p : Int) : ByteArray := if p = -1 then ⟨#[42]⟩ else yL p
def NV (page : Int) (c : Cell) : List UInt8 := (Utf8.encode (vk page c)).data.toList
def aev (p : Int) : ByteArray := ⟨#[32]⟩ ++ QF p ++ ⟨#[61]⟩
def DZ (page : Int) (x : Int × List Cell) : List UInt8 := (aev x.1).data.toList ++ x.2.flatMap (NV page)
def KQ (a cur : Int) : ByteArray := DW a ++ ⟨#[32, 64]⟩ ++ yL cur
def UE (page : Int) (i : Inb) : List UInt8 := if i.alone = true then (DW i.jV).data.toList else (KQ i.jV i.cur).data.toList ++ i.items.flatMap (DZ page)
theorem ach {α β : Type} {f : α → List β} {l : List α} {k : Nat} {x : α} (hx : l[k]? = some x) : (l.take (k + 1)).flatMap f = (l.take k).flatMap f ++ f x := by
 rw [List.take_add_one, hx]; simp
theorem LU {α β : Type} {f : α → List β} {m : Nat} {l : List α} (h : ∀ x ∈ l, (f x).length ≤ m) : (l.flatMap f).length ≤ m * l.length := by
 induction l with
 | nil => simp
 | cons a l ih =>
  have h1 := h a (List.mem_cons_self ..)
  have h2 := ih fun x hx => h x (List.mem_cons_of_mem _ hx)
  simp only [List.flatMap_cons, List.length_append, List.length_cons, Nat.mul_add, Nat.mul_one]; omega
theorem ajY {l : List It} {k : Nat} {x : It} (hx : l[k]? = some x) (page : Int) : (its (l.take (k + 1))).flatMap (DZ page) = (its (l.take k)).flatMap (DZ page) ++ ((⟨#[32]⟩ ++ QF x.at' ++ ⟨#[61]⟩ : ByteArray).data.toList ++ x.cs.flatMap (NV page)) := by
 have e : its (l.take (k + 1)) = its (l.take k) ++ [(x.at', x.cs)] := by rw [List.take_add_one, hx]; simp [its]
 rw [e]; simp [DZ, aev]
theorem UH {p : Int} (h : -9223372036854775808 ≤ p ∧ p ≤ 9223372036854775807) : (QF p).size ≤ 21 := by
 unfold QF; split
 ·decide
 ·exact Gy h
theorem vZ (a b : ByteArray) : (a ++ b).size = a.size + b.size := by simp
theorem Ea (a : ByteArray) : a.data.toList.length = a.size := by simp
theorem XF : (⟨#[32]⟩ : ByteArray).size = 1 := rfl
theorem XG : (⟨#[61]⟩ : ByteArray).size = 1 := rfl
theorem QD : (⟨#[32, 64]⟩ : ByteArray).size = 2 := rfl
theorem ajW {page : Int} {i : Inb} (h : i.alone = true) : UE page i = (DW i.jV).data.toList := if_pos h
theorem ajZ {page : Int} {i : Inb} (h : i.alone = false) : UE page i = (KQ i.jV i.cur).data.toList ++ i.items.flatMap (DZ page) := if_neg (by rw [h]; decide)
theorem str_eq (s : ByteArray) : s = ⟨s.data.toList.toArray⟩ := by cases s; simp
theorem PG {page : Int} {c : Cell} (h : 0 ≤ c.b ∧ c.b ≤ 255) : (NV page c).length ≤ 4 := by
 unfold NV; rw [(aj9 (acp h)).1]; exact encode_le _
theorem aen {page : Int} {c : Cell} (h : 0 ≤ c.b ∧ c.b ≤ 255) : (Utf8.encode (vk page c)).size ≤ 4 := by have := PG (page := page) h; simpa [NV] using this
theorem ahM {page : Int} {xs : List Cell} {k : Nat} (h : jh xs) : ((xs.take k).flatMap (NV page)).length ≤ 4 * k := by
 have h1 := LU (f := NV page) (m := 4) (l := xs.take k) fun x hx => PG (h x (List.mem_of_mem_take hx))
 have h2 := List.length_take_le k xs
 omega
theorem aem {a cur : Int} (ha : 0 ≤ a ∧ a ≤ 255) (hc : -9223372036854775808 ≤ cur ∧ cur ≤ 9223372036854775807) : (KQ a cur).size ≤ 123 := by
 have h1 := NU ha; have h2 := Gy hc
 unfold KQ; simp only [vZ, QD]; omega
theorem ahX {page : Int} {x : It} (hp : -9223372036854775808 ≤ x.at' ∧ x.at' ≤ 9223372036854775807) (hw : jh x.cs) (hc : x.cs.length ≤ 100000) : (DZ page (x.at', x.cs)).length ≤ 400023 := by
 have h1 := UH hp
 have h2 := LU (f := NV page) (m := 4) (l := x.cs) fun c hc => PG (hw c hc)
 unfold DZ aev
 simp only [List.length_append, Ea, vZ, XF, XG]; omega
theorem UG {page : Int} {l : List It} (hw : Iw l) (hp : ∀ x ∈ l, -9223372036854775808 ≤ x.at' ∧ x.at' ≤ 9223372036854775807) (hc : ∀ x ∈ l, x.cs.length ≤ 100000) (k : Nat) : ((its (l.take k)).flatMap (DZ page)).length ≤ 400023 * k := by
 have h1 := LU (f := DZ page) (m := 400023) (l := its (l.take k)) fun y hy => by
  obtain ⟨x, hx, rfl⟩ := List.mem_map.1 hy
  have hm := List.mem_of_mem_take hx
  exact ahX (hp x hm) (hw x hm) (hc x hm)
 rw [JZ] at h1
 have h2 := List.length_take_le k l
 omega
def xR : Array Value := (Lib.pow10Tab.map fun z => Value.int .u64 z).toArray
end Gs
namespace Go.Sh
open Go
theorem ajV {P : Program} {w : World} {g : Nat} {e : TypeId} {f : Nat × Nat} (hg : P.globalNamed "internal/strconv.uint64pow10" = some g) (h : w.heap[g]? = some (.cells Gs.xR e f)) : Lib.TabIs P w "internal/strconv.uint64pow10" .u64 Lib.pow10Tab := by
 unfold Lib.TabIs World.var?; rw [hg]; simp only [Option.bind_some, h]; rfl
theorem acr {P : Program} {w : World} (h : Lib.TabIs P w "internal/strconv.uint64pow10" .u64 Lib.pow10Tab) : ∃ g e f, P.globalNamed "internal/strconv.uint64pow10" = some g ∧ w.heap[g]? = some (.cells Gs.xR e f) := by
 unfold Lib.TabIs World.var? at h
 cases hg : P.globalNamed "internal/strconv.uint64pow10" with
 | none => rw [hg] at h; cases h
 | some g =>
  rw [hg] at h
  simp only [Option.bind_some] at h
  split at h
  ·rename_i cs e f hh
   cases h
   exact ⟨g, e, f, rfl, hh⟩
  ·cases h
end Go.Sh
end
section
namespace Gs
open Go
end Gs
namespace Go.Sh
open Go
theorem Qq {P : Program} {R : Ending → World → Prop} {K : Value → World → Prop} {w : World} {g : FuncId} {first cap args args' : Array Value} (hb : ((P.funcs[g]?).any fun fn => fn.body.isSome && !(fn.name == "runtime.NumGoroutine")) = true) (he : first ++ args ++ cap = args') (h : kR P g args' w R K) :
  Bv P (.func (.func g) first cap) args w R K := by
 subst he
 exact ⟨hb, h⟩
end Go.Sh
end
section
namespace Gs
open Go Go.Sh
end Gs
namespace Go.Sh
open Go
variable {P : Program} {R : Ending → World → Prop} {K : Value → World → Prop} {w : World}
end Go.Sh
end
section
namespace Gs
open Go Go.Sh
end Gs
end
section
namespace Go.Sh
open Go Go.ChangeShapes Go.WideShapes Go.RowKit
def al8 : TypeDesc → Value → Prop
  | .int k, v => ∃ n, v = .int k n ∧ (Lit.int k n).wf = true
  | .bool, v => ∃ b, v = .bool b
  | .string, v => ∃ s, v = .string s ∧ s.size ≤ maxLen
  | _, _ => False
def oK : List TypeDesc → List Value → Prop
  | [], vs => vs = []
  | d :: ds, vs => ∃ v vs', vs = v :: vs' ∧ al8 d v ∧ oK ds vs'
theorem oK.len : ∀ {ds : List TypeDesc} {vs : List Value}, oK ds vs → vs.length = ds.length
  | [], _, h => by cases h; rfl
  | d :: ds, _, ⟨v, vs', h, _, h2⟩ => by subst h; simp [oK.len h2]
theorem oK.append : ∀ {ds es : List TypeDesc} {vs us : List Value}, oK ds vs → oK es us → oK (ds ++ es) (vs ++ us)
  | [], _, _, _, h, h2 => by cases h; exact h2
  | d :: ds, _, _, _, ⟨v, vs', h, h1, h3⟩, h2 => by subst h; exact ⟨v, vs' ++ _, rfl, h1, oK.append h3 h2⟩
def Yo : TypeDesc → Bool
  | .int _ | .bool | .string => true
  | _ => false
def MR (P : Program) (rec : TypeId → Option (List TypeDesc)) : List Field → List TypeDesc → Option (List TypeDesc)
  | [], acc => some acc
  | f :: fs, acc => if f.offset = acc.length then
      match rec f.type with
      | some l => if P.cellsOf f.type = l.length then MR P rec fs (acc ++ l) else none
      | none => none
    else none
def flat (P : Program) : Nat → TypeId → Option (List TypeDesc)
  | 0, _ => none
  | n + 1, t =>
    match P.underlying t with
    | some (.struct fs) => match MR P (flat P n) fs.toList [] with
      | some l => if P.cellsOf t = l.length then some l else none
      | none => none
    | some d => if Yo d then some [d] else none
    | none => none
section
variable {H : Type} {enc : TypeId × Value → H} {P : Program} {w : World} {base : Nat} {spare : Nat → Bool} {held : Bool}
theorem abn {d : TypeDesc} {t : TypeId} {fuel : Nat} {cs : List Value} {x : DataW H × List MemPlace} (ht : P.underlying t = some d) (hd : Yo d = true) (h : DataW.trod enc P w base spare held fuel t cs = some x) : oK [d] cs := by
  cases fuel with
  | zero => simp [DataW.trod] at h
  | succ fuel =>
    cases d <;> simp only [Yo, Bool.false_eq_true] at hd <;> unfold DataW.trod at h <;> rw [ht] at h <;> dsimp only at h
    all_goals
      match cs, h with
      | [], h => simp at h
      | _ :: _ :: _, h => simp at h
      | [v], h =>
        cases v <;> simp only [reduceCtorEq] at h
        first
          | exact ⟨_, [], rfl, ⟨_, rfl⟩, rfl⟩
          | (split at h
             · rename_i hc
               first
                 | (obtain ⟨rfl, hc⟩ := hc; exact ⟨_, [], rfl, ⟨_, rfl, hc⟩, rfl⟩)
                 | exact ⟨_, [], rfl, ⟨_, rfl, hc⟩, rfl⟩
             · cases h)
theorem KD {rec : TypeId → Option (List TypeDesc)} {fuel : Nat} {cs : List Value}
    (hr : ∀ t ds cs x, rec t = some ds → DataW.trod enc P w base spare held fuel t cs = some x → oK ds cs) :
    ∀ (fs : List Field) (acc ds : List TypeDesc), MR P rec fs acc = some ds → (∀ f ∈ fs, ∃ x, DataW.trod enc P w base spare held fuel f.type ((cs.drop f.offset).take (P.cellsOf f.type)) = some x) →
      oK acc (cs.take acc.length) → oK ds (cs.take ds.length)
  | [], acc, ds, h, _, h2 => by simp only [MR, Option.some.injEq] at h; subst h; exact h2
  | f :: fs, acc, ds, h, hx, h2 => by
    unfold MR at h
    split at h
    · rename_i ho
      split at h
      · rename_i l hl
        split at h
        · rename_i hc
          obtain ⟨x, h3⟩ := hx f (by simp)
          have h4 := hr _ _ _ _ hl h3
          refine KD hr fs _ ds h (fun g hg => hx g (by simp [hg])) ?_
          rw [List.length_append, List.take_add, ← ho]
          rw [ho, hc] at h4
          rw [ho]
          exact h2.append h4
        · cases h
      · cases h
    · cases h
theorem Bi : ∀ (n : Nat) (fuel : Nat) (t : TypeId) (ds : List TypeDesc) (cs : List Value) (x : DataW H × List MemPlace), flat P n t = some ds → DataW.trod enc P w base spare held fuel t cs = some x → oK ds cs
  | 0, _, _, _, _, _, h, _ => by simp [flat] at h
  | n + 1, fuel, t, ds, cs, x, h, hx => by
    unfold flat at h
    split at h
    · rename_i fs hu
      split at h
      · rename_i l hl
        split at h
        · rename_i hc
          simp only [Option.some.injEq] at h
          subst h
          obtain ⟨xs, m, _, rfl, hlen, hxs, hf⟩ := DataW.trod_struct hu hx
          have key := KD (enc := enc) (w := w) (base := base) (spare := spare) (held := held) (rec := flat P n) (fuel := m) (cs := cs) (fun t ds cs x h1 h2 => Bi n m t ds cs x h1 h2) fs.toList [] l hl (fun f hm => by
            obtain ⟨i, hi, rfl⟩ := List.getElem_of_mem hm
            have h5 := hf i fs.toList[i] (by rw [← Array.getElem?_toList, List.getElem?_eq_getElem hi])
            rw [List.getElem?_eq_getElem (by simp at hi; omega)] at h5
            exact ⟨_, h5⟩) rfl
          rw [← hc, ← hlen, List.take_length] at key
          exact key
        · cases h
      · cases h
    · rename_i d hd hu
      split at h
      · rename_i hl
        simp only [Option.some.injEq] at h
        subst h
        exact abn hu hl hx
      · cases h
    · cases h
theorem SC {α : Type} {f : α → List Value} {Q : α → Prop} {r : Reach} {b0 : Nat} {t : TypeId} {n : Nat} {fs : Array Field} {ds : List TypeDesc} (ht : P.underlying t = some (.struct fs)) (hfl : flat P n t = some ds) (hd : ∀ cs, oK ds cs → ∃ a, cs = f a ∧ Q a)
    {v : Value} {d : DataW H} {ps : List MemPlace} (hval : Value.okWide P w r b0 t v) (h : DataW.Trod enc P w base spare held t v d ps) : ∃ a, v = .agg (f a).toArray ∧ Q a := by
  obtain ⟨cs, rfl, _⟩ := okWide_struct ht hval
  obtain ⟨fuel, h1⟩ := h
  obtain ⟨a, h2, h3⟩ := hd _ (Bi _ _ _ _ _ _ hfl h1)
  refine ⟨a, ?_, h3⟩
  rw [← h2]
  simp [Value.cells]
end
def iv (k : IntKind) (x : Int) : List Value := [.int k x]
theorem encI (k : IntKind) : Enc (iv k) 1 := ⟨fun _ => rfl, fun a u hu => by
  simp only [iv, List.mem_singleton] at hu; subst hu; rfl, by decide⟩
theorem adE (k : IntKind) : ∀ cs, oK [.int k] cs → ∃ a, cs = iv k a ∧ (Lit.int k a).wf = true := by
  rintro cs ⟨_, _, rfl, ⟨a, rfl, ha⟩, rfl⟩
  exact ⟨a, rfl, ha⟩
theorem ag8 (k : IntKind) (l : List Int) : rows (iv k) l = vals k l := by
  induction l with
  | nil => rfl
  | cons a l ih => show iv k a ++ rows (iv k) l = _; rw [ih]; rfl
end Go.Sh
end
section
namespace Gs
open Go Go.Sh
def sv (x : Int × Int) : List Value := [.int .i64 x.1, .int .i64 x.2]
theorem QU : ∀ cs, oK [.int .i64, .int .i64] cs → ∃ a, cs = sv a ∧ True := by
 rintro cs ⟨_, _, rfl, ⟨a, rfl, _⟩, ⟨_, _, rfl, ⟨b, rfl, _⟩, rfl⟩⟩
 exact ⟨(a, b), rfl, trivial⟩
end Gs
end
section
namespace Gs
open Go
theorem I9 {ps : List Cell} {a k : Int} {x : Cell} (ha : 0 ≤ a ∧ a < ps.length) (hk : 0 ≤ k ∧ k < ps.length) : bK (gV ps a x) k = if a = k then x else bK ps k := by
 rw [JS x ha.1 ha.2, Us ha hk]
theorem Md {ps : List Cell} {a : Int} {x : Cell} (ha : 0 ≤ a ∧ a < ps.length) : bK (gV ps a x) a = x := by rw [I9 ha ha, if_pos rfl]
theorem sH {ps : List Cell} {a k : Int} {x : Cell} (ha : 0 ≤ a ∧ a < ps.length) (hk : 0 ≤ k ∧ k < ps.length) (h : k ≠ a) : bK (gV ps a x) k = bK ps k := by rw [I9 ha hk, if_neg (Ne.symm h)]
end Gs
namespace Go.Sh
open Go
variable {P : Program} {w : World} {R : Ending → World → Prop} {K : Value → World → Prop}
end Go.Sh
end
section
namespace Gs
open Go Go.Sh
def ch (x : Int) : Cell := ⟨x, false, false, 0, 0⟩
def qE (cs : List Cell) (z : Nat) (l : List Int) : Prop :=
 cs.length = z + 3 ∧ bK cs 0 = ⟨if l = [] then 0 else 1, false, true, 0, 0⟩ ∧ (∀ (j : Nat) x, l[j]? = some x → bK cs ((j : Int) + 1) = ch x) ∧
  (∀ i : Int, l.length < i ∧ i ≤ z → bK cs i = zc) ∧ bK cs ((z : Int) + 1) = ⟨48, false, true, 0, 0⟩ ∧ bK cs ((z : Int) + 2) = zc
theorem TC (n : Nat) (i : Int) : bK (List.replicate n zc) i = zc := by
 unfold bK
 split
 ·rename_i h
  rw [List.getD_eq_getElem?_getD, List.getElem?_replicate]
  split <;> rfl
 ·rfl
section
variable {cs : List Cell} {z : Nat} {l : List Int}
theorem qE.st (h : qE cs z l) (hl : l.length ≤ z) {i : Int} (hi : 1 ≤ i ∧ i ≤ z) : stB cs i = false := by
 obtain ⟨_, _, h2, h3, _, _⟩ := h
 show (bK cs i).st = false
 by_cases hj : i ≤ l.length
 ·obtain ⟨j, rfl⟩ : ∃ j : Nat, i = (j : Int) + 1 := ⟨(i - 1).toNat, by omega⟩
  have hjl : j < l.length := by omega
  rw [h2 j l[j] (List.getElem?_eq_getElem hjl)]; rfl
 ·rw [h3 i (by omega)]; rfl
theorem qE.st0 (h : qE cs z l) : stB cs 0 = true := by show (bK cs 0).st = true; rw [h.2.1]
theorem qE.st1 (h : qE cs z l) : stB cs ((z : Int) + 1) = true := by show (bK cs _).st = true; rw [h.2.2.2.2.1]
theorem qE.st2 (h : qE cs z l) : stB cs ((z : Int) + 2) = false := by show (bK cs _).st = false; rw [h.2.2.2.2.2]; rfl
theorem qE.aoQ (h : qE cs z l) (hl : l.length ≤ z) : ut cs 0 = z + 1 := by
 have hn := h.1
 rw [abS (by omega), show ((0 : Int) + 1) % cs.length = 1 from Int.emod_eq_of_lt (by omega) (by omega)]
 have := JU (cs := cs) (at' := 1) (step := 1) (k := z) (by omega) (fun j hj => by
  rw [show ((1 : Int) + j * 1) = j + 1 by omega, Int.emod_eq_of_lt (by omega) (by omega)]
  exact h.st hl (by omega)) (by omega) (by
  rw [show ((1 : Int) + z * 1) = z + 1 by omega, Int.emod_eq_of_lt (by omega) (by omega)]
  exact h.st1)
 rw [this, show ((1 : Int) + z * 1) = z + 1 by omega, Int.emod_eq_of_lt (by omega) (by omega)]
theorem qE.len0 (h : qE cs z l) (hl : l.length ≤ z) : vW cs 0 = z := by
 unfold vW
 rw [h.aoQ hl, if_neg (by omega)]; omega
theorem qE.at0 (h : qE cs z l) (hl : l.length ≤ z) : kP cs 0 = ⟨0, z, if l = [] then 0 else 1⟩ := by
 unfold kP
 rw [h.len0 hl, h.2.1]
 split <;> rfl
theorem qE.Ua (h : qE cs z l) (hl : l.length ≤ z) {i : Int} (hi : 0 ≤ i ∧ i ≤ z) : gI cs i = 0 := by
 have hn := h.1
 obtain ⟨j, rfl⟩ := Int.eq_ofNat_of_zero_le hi.1
 have := Uo (cs := cs) (s := 0) (by omega) h.st0 (j := j) (by rw [h.len0 hl]; omega)
 rwa [Int.zero_add, Int.emod_eq_of_lt (by omega) (by omega)] at this
theorem qE.of (h : qE cs z l) (hl : l.length ≤ z) {i : Int} (hi : 0 ≤ i ∧ i ≤ z) : mf cs i = ⟨0, z, if l = [] then 0 else 1⟩ ∧ lH cs i = true := by
 unfold mf lH
 rw [h.Ua hl hi]
 exact ⟨by rw [if_neg (by omega), h.at0 hl], by decide⟩
theorem qE.starts (h : qE cs z l) (hl : l.length ≤ z) : bW cs = [0, z + 1] := by
 unfold bW
 rw [h.1, show z + 3 = (1 + z) + 2 from by omega, List.range_add, List.filter_append, List.range_add, List.filter_append]
 have e0 : (List.range 1).filter (fun i => stB cs (i : Nat)) = [0] := by
  have := h.st0
  simp [List.range_succ, this]
 have e1 : ((List.range z).map fun x => 1 + x).filter (fun i => stB cs (i : Nat)) = [] := by
  rw [List.filter_eq_nil_iff]
  intro x hx
  obtain ⟨j, hj, rfl⟩ := List.mem_map.1 hx
  have := List.mem_range.1 hj
  rw [h.st hl (i := ((1 + j : Nat) : Int)) (by omega)]
  decide
 have e2 : ((List.range 2).map fun x => 1 + z + x).filter (fun i => stB cs (i : Nat)) = [z + 1] := by
  have h1 := h.st1
  have h2 := h.st2
  have a1 : stB cs ((1 + z : Nat) : Int) = true := by rw [show ((1 + z : Nat) : Int) = z + 1 by omega]; exact h1
  have a2 : stB cs ((1 + z + 1 : Nat) : Int) = false := by rw [show ((1 + z + 1 : Nat) : Int) = z + 2 by omega]; exact h2
  rw [show List.range 2 = [0, 1] from rfl]
  simp only [List.map_cons, List.map_nil, Nat.add_zero, List.filter_cons, a1, a2, List.filter_nil]
  simp [Nat.add_comm]
 rw [e0, e1, e2]; rfl
theorem qE.all (h : qE cs z l) (hl : l.length ≤ z) : ∃ y, allM cs = [⟨0, z, if l = [] then 0 else 1⟩, ⟨z + 1, y, 48⟩] := by
 refine ⟨vW cs ((z : Int) + 1), ?_⟩
 unfold allM uT
 rw [h.starts hl]
 show [kP cs 0, kP cs ((z + 1 : Nat) : Int)] = _
 rw [h.at0 hl]
 congr 1
 unfold kP
 rw [show ((z + 1 : Nat) : Int) = z + 1 by omega, h.2.2.2.2.1]
 rfl
theorem qE.step (h : qE cs z l) (hl : l.length < z) (x : Int) : qE (lV (gV cs ((l.length : Int) + 1) (ch x)) ((l.length : Int) + 1)) z (l ++ [x]) := by
 have hn := h.1
 have hc : (gV cs ((l.length : Int) + 1) (ch x)).length = z + 3 := by rw [lD, hn]
 -- the cell alone is no attribute: the fields are as they were
 have hst : ∀ i : Int, stB (gV cs ((l.length : Int) + 1) (ch x)) i = stB cs i := by
  intro i
  by_cases hi : 0 ≤ i ∧ i < cs.length
  ·by_cases he : i = (l.length : Int) + 1
   ·subst he
    show (bK _ _).st = (bK _ _).st
    rw [Md (by omega), h.2.2.2.1 _ (by omega)]; rfl
   ·show (bK _ _).st = (bK _ _).st
    rw [sH (by omega) hi he]
  ·show (bK _ _).st = (bK _ _).st
   rw [xQ hi, xQ (by rw [lD]; exact hi)]
 have hb : gI (gV cs ((l.length : Int) + 1) (ch x)) ((l.length : Int) + 1) = 0 := by
  have e : gI (gV cs ((l.length : Int) + 1) (ch x)) ((l.length : Int) + 1) = gI cs ((l.length : Int) + 1) := by
   unfold gI lM Bq
   rw [lD]
   simp only [hst]
  rw [e]; exact h.Ua (by omega) (by omega)
 unfold lV
 rw [hb, if_neg (by omega)]
 unfold qY
 have h00 : bK (gV cs ((l.length : Int) + 1) (ch x)) 0 = bK cs 0 := sH (by omega) (by omega) (by omega)
 have hx0 : zy true (bK (gV cs ((l.length : Int) + 1) (ch x)) 0) = ⟨1, false, true, 0, 0⟩ := by
  rw [h00, h.2.1]
  unfold zy
  rw [if_pos rfl]
  by_cases hl0 : l = []
  ·rw [if_pos hl0]; rfl
  ·rw [if_neg hl0]; rfl
 rw [hx0]
 refine ⟨by rw [lD, hc], ?_, fun j y hj => ?_, fun i hi => ?_, ?_, ?_⟩
 ·rw [Md (by omega), if_neg (by simp)]
 ·have hjl : j < (l ++ [x]).length := (List.getElem?_eq_some_iff.1 hj).1
  simp only [List.length_append, List.length_cons, List.length_nil] at hjl
  rw [sH (by omega) (by omega) (by omega)]
  by_cases he : j = l.length
  ·subst he
   rw [List.getElem?_append_right (Nat.le_refl _)] at hj
   simp at hj
   subst hj
   rw [Md (by omega)]
  ·rw [List.getElem?_append_left (by omega)] at hj
   rw [sH (by omega) (by omega) (by omega)]
   exact h.2.2.1 j y hj
 ·simp only [List.length_append, List.length_cons, List.length_nil] at hi
  rw [sH (by omega) (by omega) (by omega), sH (by omega) (by omega) (by omega)]
  exact h.2.2.2.1 i (by omega)
 ·rw [sH (by omega) (by omega) (by omega), sH (by omega) (by omega) (by omega)]
  exact h.2.2.2.2.1
 ·rw [sH (by omega) (by omega) (by omega), sH (by omega) (by omega) (by omega)]
  exact h.2.2.2.2.2
theorem qE.want (h : qE cs z l) (hl : l.length ≤ z) (hs : ∀ x ∈ l, 64 ≤ x) : NW cs = if l = [] then [] else [(1, l.map ch)] := by
 have hn := h.1
 obtain ⟨y, ha⟩ := h.all hl
 unfold NW
 rw [if_neg (by rw [ha]; simp), ha]
 by_cases he : l = []
 ·rw [if_pos he, if_pos he]; rfl
 ·rw [if_neg he, if_neg he]
  have o1 : EC ⟨0, z, 1⟩ = true := rfl
  have o2 : EC ⟨z + 1, y, 48⟩ = false := rfl
  simp only [List.filter_cons, o1, o2, List.filter_nil]
  simp only [if_true, Bool.false_eq_true, if_false, List.map_cons, List.map_nil]
  rw [show ((0 : Int) + 1) % (cs.length : Int) = 1 from Int.emod_eq_of_lt (by omega) (by omega)]
  congr 2
  -- its places are those from 1 on
  have hp : iJ cs.length ⟨0, z, 1⟩ = (List.range z).map fun k : Nat => ((k : Int) + 1) := by
   unfold iJ
   rw [if_pos (by show (0 : Int) ≤ 0 ∧ (0 : Int) < _; omega), show (min (max (z : Int) 0) (cs.length : Nat)).toNat = z by omega]
   refine List.map_congr_left fun k hk => ?_
   have := List.mem_range.1 hk
   show ((0 : Int) + (k + 1 : Nat)) % _ = _
   rw [Int.emod_eq_of_lt (by omega) (by omega)]; omega
  rw [hp]
  unfold Jj
  rw [List.map_map]
  obtain ⟨m, rfl⟩ : ∃ m, z = l.length + m := ⟨z - l.length, by omega⟩
  rw [List.range_add, List.map_append, List.filter_append, List.map_append]
  have e1 : (List.range l.length).map (bK cs ∘ fun k : Nat => ((k : Int) + 1)) = l.map ch := by
   refine List.ext_getElem? fun j => ?_
   rw [List.getElem?_map, List.getElem?_map]
   by_cases hj : j < l.length
   ·rw [List.getElem?_range hj, List.getElem?_eq_getElem hj]
    simp only [Option.map_some, Function.comp]
    rw [h.2.2.1 j l[j] (List.getElem?_eq_getElem hj)]
   ·rw [List.getElem?_eq_none (by simpa using hj), List.getElem?_eq_none (by omega)]; rfl
  have e2 : (((List.range m).map fun x => l.length + x).map (bK cs ∘ fun k : Nat => ((k : Int) + 1))).filter (fun c => !qh c) = [] := by
   rw [List.filter_eq_nil_iff]
   intro c hc
   obtain ⟨k, hk, rfl⟩ := List.mem_map.1 hc
   obtain ⟨j, hj, rfl⟩ := List.mem_map.1 hk
   have := List.mem_range.1 hj
   simp only [Function.comp]
   rw [h.2.2.2.1 _ (by omega)]
   decide
  rw [e1, e2, List.map_nil, List.append_nil]
  have e3 : (l.map ch).filter (fun c => !qh c) = l.map ch := by
   rw [List.filter_eq_self]
   intro c hc
   obtain ⟨x, hx, rfl⟩ := List.mem_map.1 hc
   have := hs x hx
   unfold qh ch
   dsimp only
   rw [decide_eq_false (by omega)]; rfl
  rw [e3, List.map_map]
  refine List.map_congr_left fun x hx => ?_
  have := hs x hx
  unfold Fe ch
  simp only [Function.comp, Bool.false_eq_true, if_false]
  rw [if_pos (by unfold fJ; rw [decide_eq_true this]; rfl)]
end
theorem JR {cs : List Cell} (h : 0 < cs.length) : 0 ≤ sU cs ∧ sU cs < cs.length := by
 unfold sU
 split
 ·exact jY _ h
 ·exact ⟨by omega, by omega⟩
theorem I4 {cs : List Cell} {i : Int} (h : jB cs i = true) : 0 ≤ i ∧ i < cs.length := by
 unfold jB at h
 split at h
 ·exact of_decide_eq_true h
 ·rename_i hb
  exact Classical.not_not.1 fun hn => hb (by unfold gI; rw [zB hn]; decide)
end Gs
end
section
namespace Go.Proofs.YtjdoakbadehicaaGreatDoor
open Go Go.Sh
set_option maxRecDepth 100000
theorem Ey {bk : Nat} {st why tn : Int} {x0 x4 x5 : Value} {w : World} (aC : Z.h w bk #[x0, Z.i st, Z.i why, Z.i tn, x4, x5] 95) {s2 y2 : Int} :
    oX 46 #[.pointer (some ⟨bk, 1, none⟩), Z.i s2, Z.i y2] w fun e w' => ∃ v, e = .returned v ∧ ∃ t' : Int, Z.h w' bk #[x0, Z.i s2, Z.i y2, Z.i t', x4, x5] 95 ∧ aA (· = bk) w w' := by
 refine F46.calls ?_
 unfold F46
 have hF : aA (· = bk) w w := Fr.refl _ _ _
 refine bP (fun g w' => ∃ (t' : Int), (Z.h w' bk #[x0, Z.i st, Z.i why, Z.i t', x4, x5] 95) ∧ (aA (· = bk) w w')) (fun J1 hJ1 => ?_) (fun gJ1 jK hI => ?_)
 refine dw ?_
 refine Z.f 0 ?_
 refine Z.l aC ?_
 refine az (jQ _ _ _ _ _) (fun h1 => ?_) (fun h1 => ?_)
 refine aK ?_
 refine dw ?_
 refine Z.f 2 ?_
 refine Z.l aC ?_
 refine au (Gj _ _ _ _) ?_
 refine dw ?_
 refine Z.f 2 ?_
 refine Z.s aC (fun w2 aC _ U2 => ?_)
 replace hF := hF.go U2 (fun i _ h => h)
 refine hJ1 _ _ ?_
 exact ⟨_, aC, hF⟩
 refine aF ?_
 refine hJ1 _ _ ?_
 exact ⟨_, aC, hF⟩
 obtain ⟨t', aC, hF⟩ := hI
 refine dw ?_
 refine Z.f 0 ?_
 refine Z.s aC (fun w3 aC _ U3 => ?_)
 replace hF := hF.go U3 (fun i _ h => h)
 refine dw ?_
 refine Z.f 1 ?_
 refine Z.s aC (fun w4 aC _ U4 => ?_)
 replace hF := hF.go U4 (fun i _ h => h)
 exact ⟨_, rfl, t', aC, hF⟩
theorem zQ {bk : Nat} {st why tn : Int} {x0 x4 x5 : Value} {w : World} (aC : Z.h w bk #[x0, Z.i st, Z.i why, Z.i tn, x4, x5] 95) :
    oX 17 #[.pointer (some ⟨bk, 1, none⟩)] w fun e w' => ∃ v, e = .returned v ∧ ∃ t' : Int, Z.h w' bk #[x0, Z.i 1, Z.i 0, Z.i t', x4, x5] 95 ∧ aA (· = bk) w w' := by
 refine F17.calls ?_
 unfold F17
 have hF : aA (· = bk) w w := Fr.refl _ _ _
 refine aN (Ey aC (s2 := 1) (y2 := 0)) (fun v1 w1 D1 => ?_)
 obtain ⟨t3, N1, U1⟩ := D1
 replace aC := N1
 replace hF := hF.go U1 (fun i _ h => h)
 exact ⟨_, rfl, _, aC, hF⟩
theorem mg {bk : Nat} {st why tn : Int} {x0 x4 x5 : Value} {w : World} (aC : Z.h w bk #[x0, Z.i st, Z.i why, Z.i tn, x4, x5] 95) :
    oX 28 #[.pointer (some ⟨bk, 1, none⟩)] w fun e w' => e = .returned (Z.i (if st = 1 then 0 else 40)) ∧ aA no w w' := by
 refine F28.calls ?_
 unfold F28
 have hF : aA no w w := Fr.refl _ _ _
 refine dw ?_
 refine Z.f 0 ?_
 refine Z.l aC ?_
 refine az (jQ _ _ _ _ _) (fun h1 => ?_) (fun h1 => ?_)
 refine aK ?_
 exact ⟨congrArg (fun q => Ending.returned (Z.i q)) (if_neg (by assumption)).symm, hF⟩
 refine aF ?_
 exact ⟨congrArg (fun q => Ending.returned (Z.i q)) (if_pos (Classical.not_not.1 (by assumption))).symm, hF⟩
theorem WH {bk : Nat} {st why tn : Int} {x0 x4 x5 : Value} {w : World} (aC : Z.h w bk #[x0, Z.i st, Z.i why, Z.i tn, x4, x5] 95) (hs : st = 1) :
    oX 83 #[.pointer (some ⟨bk, 1, none⟩)] w fun e w' => ∃ v, e = .returned v ∧ v = Z.i 0 ∧ ∃ t' : Int, Z.h w' bk #[x0, Z.i 2, Z.i 0, Z.i t', x4, x5] 95 ∧ aA (· = bk) w w' := by
 refine F83.calls ?_
 unfold F83
 have hF : aA (· = bk) w w := Fr.refl _ _ _
 refine aB (mg aC) (fun w1 U1 => ?_)
 rw [if_pos hs]
 refine jq (jQ _ _ _ _ _) (fun h => h rfl) ?_
 refine aF ?_
 replace aC := U1.af aC
 refine aN (Ey aC (s2 := 2) (y2 := 0)) (fun v2 w2 D2 => ?_)
 obtain ⟨t10, N2, U2⟩ := D2
 replace aC := N2
 replace hF := hF.go0 U1
 replace hF := hF.go U2 (fun i _ h => h)
 exact ⟨_, rfl, rfl, _, aC, hF⟩
theorem VQ {bk : Nat} {st why tn : Int} {x0 x4 x5 : Value} {w : World} (aC : Z.h w bk #[x0, Z.i st, Z.i why, Z.i tn, x4, x5] 95) (hs : st = 1) :
    oX 51 #[.pointer (some ⟨bk, 1, none⟩), Z.i 0] w fun e w' => e = .returned (Z.i 0) ∧ aA no w w' := by
 refine Xl.calls ?_
 unfold Xl
 have hF : aA no w w := Fr.refl _ _ _
 refine aB (mg aC) (fun w1 U1 => ?_)
 rw [if_pos hs]
 refine jq (jQ _ _ _ _ _) (fun h => h rfl) ?_
 refine aF ?_
 refine bP (fun g w' => (Z.h w' bk #[x0, Z.i st, Z.i why, Z.i tn, x4, x5] 95) ∧ (aA no w w')) (fun J1 hJ1 => ?_) (fun gJ1 jK hI => ?_)
 refine jq (jQ _ _ _ _ _) (fun h => h rfl) ?_
 refine aF ?_
 refine hJ1 _ _ ?_
 replace aC := U1.af aC
 replace hF := hF.go0 U1
 exact ⟨aC, hF⟩
 replace aC := U1.af aC
 replace hF := hF.go0 U1
 obtain ⟨aC, hF⟩ := hI
 exact ⟨rfl, hF⟩
theorem FK {b : Int} {w : World} (hb : 0 ≤ b ∧ b ≤ 255) :
    oX 9 #[Z.u b] w fun e w' => e = .returned (.bool (decide (¬ Gs.zF b = ⟨#[]⟩))) ∧ aA no w w' := by
 refine F9.calls ?_
 unfold F9
 have hF : aA no w w := Fr.refl _ _ _
 refine aB (yM hb) (fun w1 U1 => ?_)
 refine au (neS _ _ _ _) ?_
 replace hF := hF.go0 U1
 exact ⟨rfl, hF⟩
theorem Gp {k b : Int} {w : World} (hb : 0 ≤ b ∧ b ≤ 255) :
    oX 48 #[.agg #[Z.i k, Z.u b]] w fun e w' => e = .returned (.bool (decide ((1 ≤ k ∧ k < 17) ∨ (k = 17 ∧ ¬ Gs.zF b = ⟨#[]⟩)))) ∧ aA no w w' := by
 refine F48.calls ?_
 unfold F48
 have hF : aA no w w := Fr.refl _ _ _
 refine Z.x (#[Z.i k, Z.u b]) (fun b1 w1 e1 ah _ U1 => ?_)
 refine Z.f 0 ?_
 refine Z.l ah ?_
 refine az (geq _ _ _ _) (fun h2 => ?_) (fun h2 => ?_)
 refine aX ?_
 refine Z.f 0 ?_
 refine aX ?_
 refine Z.l ah ?_
 refine aX ?_
 refine az (lss _ _ _ _) (fun h3 => ?_) (fun h3 => ?_)
 refine aU (bu (bu (bu (bu (rY (rY (rY (bu (aU ?_)))))))))
 replace hF := hF.go0 U1
 exact ⟨Iq (.inl ⟨by omega, by omega⟩), hF⟩
 refine aU (bz ?_)
 refine Z.f 0 ?_
 refine bz ?_
 refine Z.l ah ?_
 refine bz ?_
 refine az (cu _ _ _ _ _) (fun h5 => ?_) (fun h5 => ?_)
 refine bz (aX ?_)
 refine Z.f 1 ?_
 refine aX ?_
 refine Z.l ah ?_
 refine aX ?_
 refine aB (FK hb) (fun w6 U6 => ?_)
 refine bz (aU (aT ?_))
 replace hF := (hF.go0 U1).go0 U6
 exact ⟨congrArg (fun q => Ending.returned (.bool q)) (decide_eq_decide.2 ⟨fun h => .inr ⟨by omega, h⟩, fun h => h.elim (fun h => by omega) (fun h => h.2)⟩), hF⟩
 refine bz (aQ (aQ (aQ (bz (aT (aT ?_))))))
 replace hF := hF.go0 U1
 exact ⟨Cc (fun h => h.elim (fun h => by omega) (fun h => by omega)), hF⟩
 refine aQ (aQ (aQ (aT (bz ?_))))
 refine Z.f 0 ?_
 refine bz ?_
 refine Z.l ah ?_
 refine bz ?_
 refine az (cu _ _ _ _ _) (fun h9 => ?_) (fun h9 => ?_)
 refine bz (aX ?_)
 refine Z.f 1 ?_
 refine aX ?_
 refine Z.l ah ?_
 refine aX ?_
 refine aB (FK hb) (fun w10 aW => ?_)
 refine bz (aU (aT ?_))
 replace hF := (hF.go0 U1).go0 aW
 exact ⟨congrArg (fun q => Ending.returned (.bool q)) (decide_eq_decide.2 ⟨fun h => .inr ⟨by omega, h⟩, fun h => h.elim (fun h => by omega) (fun h => h.2)⟩), hF⟩
 refine bz (aQ (aQ (aQ (bz (aT (aT ?_))))))
 replace hF := hF.go0 U1
 exact ⟨Cc (fun h => h.elim (fun h => by omega) (fun h => by omega)), hF⟩
theorem zt {x : Int} {w : World} (hx : 0 ≤ x ∧ x ≤ 255) :
    oX 118 #[Z.u x] w fun e w' => e = .returned (.bool (decide (x / 16 % 2 = 1))) ∧ aA no w w' := by
 refine Zm.calls ?_
 unfold Zm
 have hF : aA no w w := Fr.refl _ _ _
 refine au (ahb _ (by omega)) ?_
 refine au (jQ _ _ _ _ _) ?_
 exact ⟨yC (by omega), hF⟩
theorem kQ {r c cur : Int} {A : Option Addr} {n cp bp B0 : Nat} {cs : List Gs.Cell} {w : World} (ag : Z.h w bp #[Z.i r, Z.i c, .slice A n cp, Z.i cur] 91) (ae : Own B0 w 37 5 (.slice A n cp) (rows Gs.cv cs)) (hn : n = cs.length) {i j : Int} (hp : 0 < n) (hN : Gs.aZ r c = n) (hb : n ≤ 4096)  :
    oX 125 #[Z.p bp, Z.i i, Z.i j] w fun e w' => e = .returned (Z.i ((i + j) % (n : Int))) ∧ aA no w w' := by
 refine Zo.calls ?_
 unfold Zo
 have hF : aA no w w := Fr.refl _ _ _
 refine aB (jZ ag ae hn) (fun w1 U1 => ?_)
 refine aB (mW (i := i) (j := j)) (fun w2 U2 => ?_)
 rw [hN, Gs.sF (by omega)]
 replace hF := (hF.go0 U1).go0 U2
 exact ⟨rfl, hF⟩
theorem lW {r c cur : Int} {A : Option Addr} {n cp bp B0 : Nat} {cs : List Gs.Cell} {w : World} (ag : Z.h w bp #[Z.i r, Z.i c, .slice A n cp, Z.i cur] 91) (ae : Own B0 w 37 5 (.slice A n cp) (rows Gs.cv cs)) (hn : n = cs.length) {i : Int} (hi : 0 ≤ i ∧ i < cs.length) :
    oX 124 #[Z.p bp, Z.i i] w fun e w' => ∃ v, e = .returned v ∧ v = Z.i i ∧ Z.h w' bp #[Z.i r, Z.i c, .slice A n cp, Z.i i] 91 ∧ aA (· = bp) w w' := by
 refine Zn.calls ?_
 unfold Zn
 have hF : aA (· = bp) w w := Fr.refl _ _ _
 refine aN (qZ ag ae hn (i := i)) (fun v1 w1 D1 => ?_)
 obtain ⟨rfl, N1, U1⟩ := D1
 replace ag := N1
 replace hF := hF.go U1 (fun i _ h => h)
 rw [if_pos hi] at ag
 exact ⟨_, rfl, rfl, ag, hF⟩
theorem JK {r c cur : Int} {A : Option Addr} {n cp bp B0 : Nat} {cs : List Gs.Cell} {w : World} (ag : Z.h w bp #[Z.i r, Z.i c, .slice A n cp, Z.i cur] 91) (ae : Own B0 w 37 5 (.slice A n cp) (rows Gs.cv cs)) (hn : n = cs.length) (hp : 0 < n) (hN : Gs.aZ r c = n) (hb : n ≤ 4096) (hx : (Gs.bK cs ((cur + 1) % (n : Int))).st = false) :
    oX 74 #[Z.p bp] w fun e w' => ∃ v, e = .returned v ∧ v = Z.i ((cur + 1) % (n : Int)) ∧ Z.h w' bp #[Z.i r, Z.i c, .slice A n cp, Z.i ((cur + 1) % (n : Int))] 91 ∧ aA (· = bp) w w' := by
 refine Xi.calls ?_
 unfold Xi
 have hnx := Gs.jY (cur + 1) (N := n) (by omega)
 have hF : aA (· = bp) w w := Fr.refl _ _ _
 refine aB (dW ag ae hn) (fun w1 U1 => ?_)
 replace ae := ae.ai U1
 replace ag := U1.af ag
 refine aB (kQ ag ae hn (i := cur) (j := 1) hp hN hb) (fun w2 U2 => ?_)
 replace ae := ae.ai U2
 replace ag := U2.af ag
 refine aN (lW ag ae hn (i := ((cur + 1) % (n : Int))) (by omega)) (fun v3 w3 D3 => ?_)
 obtain ⟨rfl, N3, U3⟩ := D3
 replace ae := ae.aG U3 (Own.aS ae (by assumption) (by decide))
 replace ag := N3
 replace hF := (hF.go0 U1).go0 U2
 replace hF := hF.go U3 (fun i _ h => h)
 refine aB (iw ag ae hn (i := ((cur + 1) % (n : Int)))) (fun w4 U4 => ?_)
 obtain ⟨xb, xg, xl, xc, hxe⟩ : ∃ b g l c, Gs.bK cs ((cur + 1) % (n : Int)) = ⟨b, g, false, l, c⟩ := ⟨_, _, _, _, by rw [← hx]⟩
 rw [hxe]
 refine Z.n ((Gs.cv Gs.zc).toArray) (fun b5 w5 e5 cO _ U5 => ?_)
 replace ag := U4.af ag
 have kC : bp ≠ b5 := by have := ak ag; omega
 replace hF := hF.go0 U4
 have iG : w.heap.size ≤ b5 := by have := hF.size; omega
 refine Z.t 5 ((Gs.cv ⟨xb, xg, false, xl, xc⟩).toArray) (by (simp [Value.cells, Value.oneCell', Gs.cv, Gs.fv, Gs.ie]; done)) cO (fun w6 cO _ U6 => ?_)
 refine Z.f 2 ?_
 refine Z.l cO ?_
 refine aQ (aQ (aQ (aT (aF ?_))))
 refine Z.f 2 ?_
 refine Z.l cO ?_
 refine aF ?_
 replace ag := U6.aj (U5.af ag) kC
 replace hF := (hF.go0 U5).go1 U6 iG
 exact ⟨_, rfl, rfl, ag, hF⟩
theorem Sj {r c cur : Int} {A : Option Addr} {n cp bp B0 : Nat} {cs : List Gs.Cell} {w : World} (ag : Z.h w bp #[Z.i r, Z.i c, .slice A n cp, Z.i cur] 91) (ae : Own B0 w 37 5 (.slice A n cp) (rows Gs.cv cs)) (hn : n = cs.length) {x : Int} (hN : Gs.aZ r c = n) (hb : n ≤ 4096) (hcw : Gs.jh cs) (hof : Gs.lH cs cur = true) (hop : Gs.jB cs cur = true) (hnm : ¬ (Gs.mf cs cur).a / 16 % 2 = 1)  :
    oX 71 #[Z.p bp, Z.u x] w fun e w' => e = .returned (Z.i 0) ∧ aA no w w' := by
 refine Qr.calls ?_
 unfold Qr
 have hF : aA no w w := Fr.refl _ _ _
 refine aB (dW ag ae hn) (fun w1 U1 => ?_)
 replace ae := ae.ai U1
 replace ag := U1.af ag
 refine aB (rE ag ae hn hN hb hcw (i := cur)) (fun w2 U2 => ?_)
 rw [hof]
 refine Z.e ?_
 refine Z.e ?_
 refine Z.n ((Gs.fv Gs.zf).toArray) (fun b3 w3 e3 bF _ U3 => ?_)
 replace ag := U2.af ag
 have kV : bp ≠ b3 := by have := ak ag; omega
 replace ae := ae.ai U2
 have iH := ae.apart e3
 replace hF := (hF.go0 U1).go0 U2
 have jD : w.heap.size ≤ b3 := by have := hF.size; omega
 refine Z.t 3 ((Gs.fv (Gs.mf cs cur)).toArray) (by (simp [Value.cells, Value.oneCell', Gs.cv, Gs.fv, Gs.ie]; done)) bF (fun w4 bF _ U4 => ?_)
 replace ae := (ae.ai U3).aG U4 iH
 replace ag := U4.aj (U3.af ag) kV
 refine aB (dW ag ae hn) (fun w5 U5 => ?_)
 replace ae := ae.ai U5
 replace ag := U5.af ag
 refine ru (mV ag ae hn hN hb hcw (i := cur)) (hop) (fun w6 U6 => ?_)
 refine au (kz) ?_
 refine aF (aX ?_)
 refine Z.f 2 ?_
 refine aX ?_
 replace bF := U6.af (U5.af bF)
 refine Z.l bF ?_
 refine aX ?_
 refine PQ (zt (Gs.Y0 hcw cur)) (decide_eq_false hnm) (fun w7 U7 => ?_)
 refine aU (aQ (aQ (aQ (aT (aF ?_)))))
 replace hF := ((((hF.go0 U3).go1 U4 jD).go0 U5).go0 U6).go0 U7
 exact ⟨rfl, hF⟩
theorem Sl {r c cur : Int} {A : Option Addr} {n cp bp B0 : Nat} {cs : List Gs.Cell} {w : World} (ag : Z.h w bp #[Z.i r, Z.i c, .slice A n cp, Z.i cur] 91) (ae : Own B0 w 37 5 (.slice A n cp) (rows Gs.cv cs)) (hn : n = cs.length) {x : Int} (hp : 0 < n) (hN : Gs.aZ r c = n) (hb : n ≤ 4096) (hcw : Gs.jh cs) (hxb : 0 ≤ x ∧ x ≤ 255) (hof : Gs.lH cs cur = true) (hop : Gs.jB cs cur = true) (hnm : ¬ (Gs.mf cs cur).a / 16 % 2 = 1) (hx : (Gs.bK (Gs.lV (Gs.gV cs cur ⟨x, false, false, (Gs.bK cs cur).l, (Gs.bK cs cur).c⟩) cur) ((cur + 1) % (n : Int))).st = false)  :
    oX 37 #[Z.p bp, Z.u x, .bool false] w fun e w' => ∃ v, e = .returned v ∧ v = Z.i 0 ∧ Z.h w' bp #[Z.i r, Z.i c, .slice A n cp, Z.i ((cur + 1) % (n : Int))] 91 ∧ Own B0 w' 37 5 (.slice A n cp) (rows Gs.cv (Gs.lV (Gs.gV cs cur ⟨x, false, false, (Gs.bK cs cur).l, (Gs.bK cs cur).c⟩) cur)) ∧ aA (fun k => aH (.slice A n cp) k ∨ k = bp) w w' := by
 refine Qu.calls ?_
 unfold Qu
 have hl1 : n = (Gs.gV cs cur ⟨x, false, false, (Gs.bK cs cur).l, (Gs.bK cs cur).c⟩).length := by rw [Gs.lD]; exact hn
 have hw1 : Gs.jh (Gs.gV cs cur ⟨x, false, false, (Gs.bK cs cur).l, (Gs.bK cs cur).c⟩) := hcw.gV (show Gs.Cw ⟨x, false, false, (Gs.bK cs cur).l, (Gs.bK cs cur).c⟩ from hxb) _
 have hl2 : n = (Gs.lV (Gs.gV cs cur ⟨x, false, false, (Gs.bK cs cur).l, (Gs.bK cs cur).c⟩) cur).length := by rw [Gs.DN]; exact hl1
 have hcur := Gs.I4 hop
 have hF : aA (fun k => aH (.slice A n cp) k ∨ k = bp) w w := Fr.refl _ _ _
 refine aB (dW ag ae hn) (fun w1 U1 => ?_)
 replace ae := ae.ai U1
 replace ag := U1.af ag
 refine aB (Sj ag ae hn (x := x) hN hb hcw hof hop hnm) (fun w2 U2 => ?_)
 refine jq (jQ _ _ _ _ _) (fun h => h rfl) ?_
 refine aF ?_
 replace ae := ae.ai U2
 replace ag := U2.af ag
 refine aB (iw ag ae hn (i := cur)) (fun w3 U3 => ?_)
 refine Z.n ((Gs.cv Gs.zc).toArray) (fun b4 w4 e4 ed _ U4 => ?_)
 replace ag := U3.af ag
 have pY : bp ≠ b4 := by have := ak ag; omega
 replace ae := ae.ai U3
 have l9 := ae.apart e4
 replace hF := ((hF.go0 U1).go0 U2).go0 U3
 have mY : w.heap.size ≤ b4 := by have := hF.size; omega
 refine Z.t 5 ((Gs.cv (Gs.bK cs cur)).toArray) (by (simp [Value.cells, Value.oneCell', Gs.cv, Gs.fv, Gs.ie]; done)) ed (fun w5 ed _ U5 => ?_)
 refine bP (fun g w' => (Z.h w' bp #[Z.i r, Z.i c, .slice A n cp, Z.i cur] 91) ∧ (Own B0 w' 37 5 (.slice A n cp) (rows Gs.cv cs)) ∧ (Z.h w' b4 ((Gs.cv (Gs.bK cs cur)).toArray) 37) ∧ (aA (fun k => aH (.slice A n cp) k ∨ k = bp) w w')) (fun J1 hJ1 => ?_) (fun gJ1 jK hI => ?_)
 refine aF ?_
 refine hJ1 _ _ ?_
 replace ae := (ae.ai U4).aG U5 l9
 replace ag := U5.aj (U4.af ag) pY
 replace hF := (hF.go0 U4).go1 U5 mY
 exact ⟨ag, ae, ed, hF⟩
 replace ae := (ae.ai U4).aG U5 l9
 replace ag := U5.aj (U4.af ag) pY
 replace hF := (hF.go0 U4).go1 U5 mY
 obtain ⟨ag, ae, ed, hF⟩ := hI
 refine Z.f 3 ?_
 refine Z.l ed ?_
 refine Z.f 4 ?_
 refine Z.l ed ?_
 refine au (bG (l := [(0, 1), (1, 1), (2, 1), (3, 1), (4, 1)]) (z := #[Z.u 0, .bool false, .bool false, Z.u 0, Z.u 0]) (cs := Gs.cv ⟨x, false, false, (Gs.bK cs cur).l, (Gs.bK cs cur).c⟩) (by kernel_rfl) (by rfl)) ?_
 refine aN (jv ag ae hn (i := cur) (x := ⟨x, false, false, (Gs.bK cs cur).l, (Gs.bK cs cur).c⟩)) (fun v7 w7 D7 => ?_)
 obtain ⟨rfl, N7, U7⟩ := D7
 have aJ := ae
 replace ag := U7.get ag (fun h => Own.aS aJ ag (by decide) _ h rfl)
 replace ae := N7
 replace hF := hF.go U7 (fun i h hs => .inl hs)
 clear aJ
 refine aN (vT ag ae hl1 hN hb hw1 (i := cur)) (fun v8 w8 D8 => ?_)
 obtain ⟨rfl, N8, U8⟩ := D8
 have aJ := ae
 replace ag := U8.get ag (fun h => Own.aS aJ ag (by decide) _ h rfl)
 replace ae := N8
 replace hF := hF.go U8 (fun i h hs => .inl hs)
 clear aJ
 refine aN (JK ag ae hl2 hp hN hb hx) (fun v9 w9 D9 => ?_)
 obtain ⟨rfl, N9, U9⟩ := D9
 replace ae := ae.aG U9 (Own.aS ae (by assumption) (by decide))
 replace ag := N9
 replace hF := hF.go U9 (fun i _ h => .inr h)
 exact ⟨_, rfl, rfl, ag, ae, hF⟩
theorem iL {r0 c0 r1 c1 wh : Int} {bs : Nat} {bp : Nat} {w : World} (ay : Z.h w bs #[Z.i r0, Z.i c0, Z.i r1, Z.i c1, Z.i wh, Z.p bp] 89)  :
    oX 13 #[Z.p bs] w fun e w' => e = .returned (Z.p bp) ∧ aA no w w' := by
 refine F13.calls ?_
 unfold F13
 have hF : aA no w w := Fr.refl _ _ _
 refine dw ?_
 refine Z.f 5 ?_
 refine Z.l ay ?_
 exact ⟨rfl, hF⟩
theorem VR {r0 c0 r1 c1 wh : Int} {bs : Nat} {pv : Value} {w : World} (ay : Z.h w bs #[Z.i r0, Z.i c0, Z.i r1, Z.i c1, Z.i wh, pv] 89) (hz : (Gs.aZ r0 c0) ≠ 0) :
    oX 82 #[Z.p bs, Z.i 0] w fun e w' => ∃ v, e = .returned v ∧ ∃ bp g, Z.h w' bs #[Z.i r0, Z.i c0, Z.i r1, Z.i c1, Z.i 0, Z.p bp] 89 ∧ w.heap.size ≤ bp ∧ Z.h w' bp #[Z.i r0, Z.i c0, .slice (some ⟨g, 0, none⟩) (Gs.aZ r0 c0).toNat (Gs.aZ r0 c0).toNat, Z.i 0] 91 ∧ Own w.heap.size w' 37 5 (.slice (some ⟨g, 0, none⟩) (Gs.aZ r0 c0).toNat (Gs.aZ r0 c0).toNat) (rows Gs.cv (List.replicate (Gs.aZ r0 c0).toNat Gs.zc)) ∧ aA (· = bs) w w' := by
 refine Qy.calls ?_
 unfold Qy
 have hF : aA (· = bs) w w := Fr.refl _ _ _
 refine dw ?_
 refine Z.f 4 ?_
 refine Z.s ay (fun w1 ay _ U1 => ?_)
 replace hF := hF.go U1 (fun i _ h => h)
 refine dw ?_
 refine Z.f 0 ?_
 refine au (GN (n := 2) (m := 2) (by kernel_rfl) (by omega) (by omega)) ?_
 refine Z.b 2 _ ay ?_
 refine aN (ww (r := r0) (c := c0) hz) (fun v2 w2 D2 => ?_)
 obtain ⟨bp, g, rfl, gbp, ag, ae, U2⟩ := D2
 have uw : bs ≠ bp := by have := ak ay; omega
 have qo : w.heap.size ≤ bp := by have := hF.size; omega
 replace ae := ae.mono (B' := w.heap.size) hF.size
 refine Z.e ?_
 refine Z.e ?_
 refine dw ?_
 refine Z.f 5 ?_
 replace ay := U2.af ay
 refine Z.s ay (fun w3 ay _ U3 => ?_)
 replace ae := ae.aG U3 (Own.aS ae (by assumption) (by decide))
 replace hF := hF.go0 U2
 replace hF := hF.go U3 (fun i _ h => h)
 replace ag := U3.aj ag (Ne.symm uw)
 exact ⟨_, rfl, bp, g, ay, qo, ag, ae, hF⟩
theorem WU {r0 c0 r1 c1 wh : Int} {bs : Nat} {pv : Value} {w : World} (ay : Z.h w bs #[Z.i r0, Z.i c0, Z.i r1, Z.i c1, Z.i wh, pv] 89) (hz : (Gs.aZ r0 c0) ≠ 0) :
    oX 44 #[Z.p bs] w fun e w' => ∃ v, e = .returned v ∧ ∃ bp g, Z.h w' bs #[Z.i r0, Z.i c0, Z.i r1, Z.i c1, Z.i 0, Z.p bp] 89 ∧ w.heap.size ≤ bp ∧ Z.h w' bp #[Z.i r0, Z.i c0, .slice (some ⟨g, 0, none⟩) (Gs.aZ r0 c0).toNat (Gs.aZ r0 c0).toNat, Z.i 0] 91 ∧ Own w.heap.size w' 37 5 (.slice (some ⟨g, 0, none⟩) (Gs.aZ r0 c0).toNat (Gs.aZ r0 c0).toNat) (rows Gs.cv (List.replicate (Gs.aZ r0 c0).toNat Gs.zc)) ∧ aA (· = bs) w w' := by
 refine Xq.calls ?_
 unfold Xq
 have hF : aA (· = bs) w w := Fr.refl _ _ _
 refine aN (VR ay hz) (fun v1 w1 D1 => ?_)
 obtain ⟨bp, g, N1, gbp, ag, ae, U1⟩ := D1
 have qo : w.heap.size ≤ bp := by have := hF.size; omega
 replace ae := ae.mono (B' := w.heap.size) hF.size
 replace ay := N1
 replace hF := hF.go U1 (fun i _ h => h)
 exact ⟨_, rfl, bp, g, ay, qo, ag, ae, hF⟩
theorem NZ {r0 c0 r1 c1 : Int} {w : World} (hz : (Gs.aZ r0 c0) ≠ 0) (hz1 : Gs.aZ r1 c1 ≠ 0) :
    oX 12 #[.agg #[Z.i r0, Z.i c0], .agg #[Z.i r1, Z.i c1]] w fun e w' => ∃ v, e = .returned v ∧ ∃ bs bp g, v = .tuple #[Z.p bs, Z.i 0] ∧ w.heap.size ≤ bs ∧ w.heap.size ≤ bp ∧ Z.h w' bs #[Z.i r0, Z.i c0, Z.i r1, Z.i c1, Z.i 0, Z.p bp] 89 ∧ Z.h w' bp #[Z.i r0, Z.i c0, .slice (some ⟨g, 0, none⟩) (Gs.aZ r0 c0).toNat (Gs.aZ r0 c0).toNat, Z.i 0] 91 ∧ Own w.heap.size w' 37 5 (.slice (some ⟨g, 0, none⟩) (Gs.aZ r0 c0).toNat (Gs.aZ r0 c0).toNat) (rows Gs.cv (List.replicate (Gs.aZ r0 c0).toNat Gs.zc)) ∧ aA no w w' := by
 refine Xp.calls ?_
 unfold Xp
 have hF : aA no w w := Fr.refl _ _ _
 refine Z.x (#[Z.i r0, Z.i c0]) (fun b1 w1 e1 ah _ U1 => ?_)
 refine Z.x (#[Z.i r1, Z.i c1]) (fun b2 w2 e2 ax _ U2 => ?_)
 replace ah := U2.af ah
 refine Z.b 2 (#[Z.i r0, Z.i c0]) ah ?_
 refine aB (qK (r := r0) (c := c0)) (fun w3 U3 => ?_)
 refine jq (cu _ _ _ _ _) (hz) ?_
 refine bz ?_
 replace ax := U3.af ax
 refine Z.b 2 (#[Z.i r1, Z.i c1]) ax ?_
 refine bz ?_
 refine aB (qK (r := r1) (c := c1)) (fun w4 U4 => ?_)
 refine bz ?_
 refine jq (cu _ _ _ _ _) (hz1) ?_
 refine aT (aF ?_)
 replace ah := U4.af (U3.af ah)
 refine Z.b 2 (#[Z.i r0, Z.i c0]) ah ?_
 replace ax := U4.af ax
 refine Z.b 2 (#[Z.i r1, Z.i c1]) ax ?_
 refine au (tY (n := 2) (m := 2) (z := #[Z.i 0, Z.i 0, Z.i 0, Z.i 0]) (by kernel_rfl) (by kernel_rfl) (by (simp [eH, splice, fU, Value.cells]; rfl))) ?_
 refine au (bG (l := [(0, 4), (4, 1), (5, 1)]) (z := #[Z.i 0, Z.i 0, Z.i 0, Z.i 0, Z.i 0, .pointer none]) (cs := [Z.i r0, Z.i c0, Z.i r1, Z.i c1, Z.i 0, .pointer none]) (by kernel_rfl) (by rfl)) ?_
 refine Z.x (#[Z.i r0, Z.i c0, Z.i r1, Z.i c1, Z.i 0, .pointer none]) (fun b7 w7 e7 lC _ U7 => ?_)
 replace hF := (((hF.go0 U1).go0 U2).go0 U3).go0 U4
 have uZ : w.heap.size ≤ b7 := by have := hF.size; omega
 refine aN (WU lC hz) (fun v8 w8 D8 => ?_)
 obtain ⟨bp, g, N8, gbp, ag, ae, U8⟩ := D8
 replace hF := hF.go0 U7
 have qo : w.heap.size ≤ bp := by have := hF.size; omega
 replace ae := ae.mono (B' := w.heap.size) hF.size
 replace lC := N8
 replace hF := hF.go1 U8 uZ
 exact ⟨_, rfl, _, bp, g, rfl, uZ, qo, lC, ag, ae, hF⟩
theorem aeC {bs : Nat} {w : World} :
    oX 15 #[Z.p bs] w fun e w' => ∃ v, e = .returned v ∧ ∃ bk, v = Z.p bk ∧ w.heap.size ≤ bk ∧ Z.h w' bk #[Z.p bs, Z.i 0, Z.i 0, Z.i 0, .bool false, Z.u 96] 95 ∧ aA no w w' := by
 refine F15.calls ?_
 unfold F15
 have hF : aA no w w := Fr.refl _ _ _
 refine au (bG (l := [(0, 1), (1, 3), (4, 1), (5, 1)]) (z := #[.pointer none, Z.i 0, Z.i 0, Z.i 0, .bool false, Z.u 0]) (cs := [Z.p bs, Z.i 0, Z.i 0, Z.i 0, .bool false, Z.u 96]) (by kernel_rfl) (by rfl)) ?_
 refine Z.x (#[Z.p bs, Z.i 0, Z.i 0, Z.i 0, .bool false, Z.u 96]) (fun b2 w2 e2 ax _ U2 => ?_)
 have eU : w.heap.size ≤ b2 := by have := hF.size; omega
 replace hF := hF.go0 U2
 exact ⟨_, rfl, _, rfl, eU, ax, hF⟩
theorem wC {bk bs : Nat} {st why tn last : Int} {ins : Bool} {w : World} (aC : Z.h w bk #[Z.p bs, Z.i st, Z.i why, Z.i tn, .bool ins, Z.u last] 95)  :
    oX 16 #[Z.p bk] w fun e w' => e = .returned (.pointer (some ⟨bk, 1, none⟩)) ∧ aA no w w' := by
 refine F16.calls ?_
 unfold F16
 have hF : aA no w w := Fr.refl _ _ _
 refine dw ?_
 refine Z.f 1 ?_
 exact ⟨rfl, hF⟩
theorem abk {bp : Nat} {w : World} :
    oX 50 #[Z.p bp, Z.i 1] w fun e w' => e = .returned (.bool false) ∧ aA no w w' := by
 refine Xm.calls ?_
 unfold Xm
 have hF : aA no w w := Fr.refl _ _ _
 refine bP (fun g w' => (False) ∧ (aA no w w')) (fun J1 hJ1 => ?_) (fun gJ1 jK hI => ?_)
 refine jq (cu _ _ _ _ _) (by decide) ?_
 refine aF ?_
 refine jq (cu _ _ _ _ _) (by decide) ?_
 refine aF ?_
 refine jq (cu _ _ _ _ _) (by decide) ?_
 refine aF ?_
 refine jq (cu _ _ _ _ _) (by decide) ?_
 refine aF ?_
 refine jq (cu _ _ _ _ _) (by decide) ?_
 refine aF ?_
 refine jq (cu _ _ _ _ _) (by decide) ?_
 refine aF ?_
 refine jq (cu _ _ _ _ _) (by decide) ?_
 refine aF ?_
 refine jq (cu _ _ _ _ _) (by decide) ?_
 refine aF ?_
 exact ⟨rfl, hF⟩
 obtain ⟨hno, hF⟩ := hI
 exact hno.elim
end Go.Proofs.YtjdoakbadehicaaGreatDoor
end
section
namespace Gs
open Go Go.Sh
section
variable {cs : List Cell} {z : Nat} {l : List Int}
def afj (cs : List Cell) (i x : Int) : List Cell := lV (gV cs i ⟨x, false, false, (bK cs i).l, (bK cs i).c⟩) i
theorem qE.put (h : qE cs z l) (hl : l.length < z) {i : Int} (hi : i = (l.length : Int) + 1) (x : Int) : qE (afj cs i x) z (l ++ [x]) := by
 subst hi
 have := h.2.2.2.1 ((l.length : Int) + 1) (by omega)
 unfold afj
 rw [this]
 exact h.step hl x
theorem qE.next (h : qE cs z l) (hl : l.length + 2 ≤ z) {i : Int} (hi : i = (l.length : Int) + 1) (x : Int) : (bK (afj cs i x) ((i + 1) % ((z + 3 : Nat) : Int))).st = false := by
 have h2 := h.put (by omega) hi x
 rw [Int.emod_eq_of_lt (by omega) (by omega)]
 exact h2.st (by simp only [List.length_append, List.length_cons, List.length_nil]; omega) (by omega)
end
end Gs
end
section
namespace Gs
open Go Go.Sh
def Pw (r c : Int) (n : Nat) (cs : List Cell) (cur : Int) : Prop := n = cs.length ∧ jh cs ∧ (0 ≤ cur ∧ cur < n) ∧ 0 < n ∧ aZ r c = n ∧ n ≤ 4096
section
variable {r c cur : Int} {n : Nat} {cs : List Cell}
theorem Pw.set (h : Pw r c n cs cur) (i : Int) {x : Cell} (hx : Cw x) : Pw r c n (gV cs i x) cur := ⟨by rw [lD]; exact h.1, h.2.1.gV hx i, h.2.2⟩
theorem Pw.mark (h : Pw r c n cs cur) (i : Int) : Pw r c n (lV cs i) cur := ⟨by rw [DN]; exact h.1, ahx h.2.1 i, h.2.2⟩
theorem Pw.unm (h : Pw r c n cs cur) (l : List Nat) : Pw r c n (qX cs l) cur := ⟨by rw [← EY]; exact h.1, Sv h.2.1 l, h.2.2⟩
theorem Pw.at (h : Pw r c n cs cur) {i : Int} (hi : 0 ≤ i ∧ i < n) : Pw r c n cs i := ⟨h.1, h.2.1, hi, h.2.2.2⟩
theorem Pw.fill (h : Pw r c n cs cur) (l : List Int) {x : Cell} (hx : Cw x) : Pw r c n (sV cs l x) cur := ⟨by rw [Ug]; exact h.1, h.2.1.fill hx l, h.2.2⟩
theorem Pw.rc (h : Pw r c n cs cur) : 1 ≤ r ∧ r ≤ 43 ∧ 1 ≤ c ∧ c ≤ 132 ∧ r * c = n := by
 have hN := h.2.2.2.2.1
 have hp := h.2.2.2.1
 unfold aZ at hN
 split at hN
 ·omega
 ·rename_i hh
  exact ⟨by omega, by omega, by omega, by omega, hN⟩
end
def Kp (cs cs' : List Cell) : Prop := cs'.length = cs.length ∧ ∀ i : Int, stB cs' i = stB cs i ∧ (stB cs i = true → bK cs' i = bK cs i)
theorem Kp.refl (cs : List Cell) : Kp cs cs := ⟨rfl, fun _ => ⟨rfl, fun _ => rfl⟩⟩
theorem FZ (cs : List Cell) (i j : Int) (x : Cell) : bK (gV cs i x) j = if i = j ∧ 0 ≤ i ∧ i < cs.length then x else bK cs j := by
 by_cases hi : 0 ≤ i ∧ i < cs.length
 ·by_cases hj : 0 ≤ j ∧ j < cs.length
  ·rw [I9 hi hj]
   by_cases e : i = j
   ·rw [if_pos e, if_pos ⟨e, hi⟩]
   ·rw [if_neg e, if_neg (fun h => e h.1)]
  ·rw [xQ (by rw [lD]; exact hj), xQ hj, if_neg (by omega)]
 ·rw [LH x hi, if_neg (fun h => hi h.2)]
theorem Kp.set {cs cs' : List Cell} (h : Kp cs cs') {i : Int} {x : Cell} (hi : stB cs i = false) (hx : x.st = false) : Kp cs (gV cs' i x) := by
 refine ⟨by rw [lD]; exact h.1, fun j => ?_⟩
 show (bK (gV cs' i x) j).st = _ ∧ _
 rw [FZ]
 by_cases e : i = j ∧ 0 ≤ i ∧ i < cs'.length
 ·rw [if_pos e]
  obtain ⟨rfl, _⟩ := e
  exact ⟨by rw [hx, hi], fun h => by rw [hi] at h; cases h⟩
 ·rw [if_neg e]; exact h.2 j
def Mk (cs cs' : List Cell) (i : Int) : Prop := ∃ c1, Kp cs c1 ∧ cs' = lV c1 i
def vg (cs : List Cell) (l : List Int) : Prop := ∀ x ∈ l, (0 ≤ x ∧ x < cs.length) ∧ stB cs x = false
theorem vg.nil (cs : List Cell) : vg cs [] := fun _ h => by cases h
theorem vg.snoc {cs : List Cell} {l : List Int} (h : vg cs l) {x : Int} (hx : (0 ≤ x ∧ x < cs.length) ∧ stB cs x = false) : vg cs (l ++ [x]) := fun y hy => by
 rcases List.mem_append.1 hy with hy | hy
 ·exact h y hy
 ·cases List.mem_singleton.1 hy; exact hx
theorem vg.get {cs : List Cell} {l : List Int} (h : vg cs l) {k : Nat} {x : Int} (hx : l[k]? = some x) : (0 ≤ x ∧ x < cs.length) ∧ stB cs x = false := h x (List.mem_of_getElem? hx)
theorem TQ {cs : List Cell} {i : Int} (hi : 0 ≤ i ∧ i < cs.length) (h : lH cs i = false) {j : Int} (hj : 0 ≤ j ∧ j < cs.length) : (0 ≤ j ∧ j < cs.length) ∧ stB cs j = false :=
 ⟨hj, O8 hi (by have := of_decide_eq_false h; exact Classical.not_not.1 this) j hj⟩
theorem Zb {cs : List Cell} {i : Int} (h : lH cs i = true) : ¬ gI cs i < 0 ∧ mf cs i = kP cs (gI cs i) := by
 have := of_decide_eq_true h
 exact ⟨this, by unfold mf; rw [if_neg this]⟩
theorem ajA {cs : List Cell} {i : Int} (hi : 0 ≤ i ∧ i < cs.length) (h : lH cs i = true) : ∃ k : Nat, (allM cs)[k]? = some (mf cs i) := by
 obtain ⟨h1, h2⟩ := Zb h
 obtain ⟨h3, h4, h5, _⟩ := Nq hi h1
 have hm : mf cs i ∈ allM cs := by
  rw [h2]
  exact List.mem_map.2 ⟨_, Ez.2 ⟨⟨h3, h4⟩, h5⟩, rfl⟩
 exact List.getElem?_of_mem hm
theorem row_in {cs : List Cell} {i : Int} (hi : 0 ≤ i ∧ i < cs.length) (h : lH cs i = true) {k : Nat} {x : Int} (hx : (iJ cs.length (mf cs i))[k]? = some x) : (0 ≤ x ∧ x < cs.length) ∧ stB cs x = false := by
 obtain ⟨q, hq⟩ := ajA hi h
 exact ⟨Gh hx, Qx hq x (List.mem_of_getElem? hx)⟩
theorem ajv {cs : List Cell} {i : Int} (ho : jB cs i = true) (h : lH cs i = true) : ∃ j : Nat, (iJ cs.length (mf cs i))[j]? = some i := by
 have hi := I4 ho
 obtain ⟨h1, h2⟩ := Zb h
 obtain ⟨h3, h4, h5, j, hj, hx⟩ := Nq hi h1
 have hne : gI cs i ≠ i := by
  unfold jB at ho
  rw [if_neg h1] at ho
  exact of_decide_eq_true ((Bool.and_eq_true _ _).mp ho).1
 obtain ⟨L, q1, q2, _⟩ := len_eq ⟨h3, h4⟩ h5
 have hj1 : 1 ≤ j := by
  rcases Nat.eq_zero_or_pos j with rfl | hh
  ·exfalso; rw [Int.natCast_zero, Int.add_zero, Int.emod_eq_of_lt h3 h4] at hx; exact hne hx.symm
  ·exact hh
 rw [h2]
 have hs : (kP cs (gI cs i)).s = gI cs i := rfl
 have hl : (kP cs (gI cs i)).l = vW cs (gI cs i) := rfl
 have hpl := uo (N := cs.length) (f := kP cs (gI cs i)) (by rw [hs]; exact ⟨h3, h4⟩)
 refine ⟨j - 1, ?_⟩
 rw [xZ (by rw [hl] at hpl; omega), hs, show (j - 1 + 1 : Nat) = j by omega, ← hx]
theorem Mk.of {cs : List Cell} {i : Int} {x : Cell} (hi : stB cs i = false) (hx : x.st = false) {c1 : List Cell} (h : Kp cs c1) : Mk cs (lV (gV c1 i x) i) i := ⟨_, h.set hi hx, rfl⟩
theorem ahu {cs : List Cell} {i : Int} (h : jB cs i = true) : stB cs i = false := by
 have hi := I4 h
 cases hs : stB cs i with
 | false => rfl
 | true =>
  exfalso
  unfold jB at h
  rw [Uh hi hs, if_neg (by omega)] at h
  simp at h
theorem ahr (i : Int) {r : Int} (hr : 1 ≤ r) (hi : -1 ≤ i ∧ i ≤ 1) : -1 ≤ Int.tmod i r ∧ Int.tmod i r ≤ 1 := by
 have h : i = -1 ∨ i = 0 ∨ i = 1 := by omega
 rcases h with rfl | rfl | rfl
 ·by_cases h1 : r = 1
  ·subst h1; decide
  ·rw [Int.neg_tmod, Int.tmod_eq_emod_of_nonneg (by decide), Int.emod_eq_of_lt (by decide) (by omega)]; decide
 ·rw [Int.zero_tmod]; decide
 ·by_cases h1 : r = 1
  ·subst h1; decide
  ·rw [Int.tmod_eq_emod_of_nonneg (by decide), Int.emod_eq_of_lt (by decide) (by omega)]; decide
theorem ajn {a : Int} (h : -1 ≤ a ∧ a ≤ 1) (c : Int) : a * c = -c ∨ a * c = 0 ∨ a * c = c := by
 have h : a = -1 ∨ a = 0 ∨ a = 1 := by omega
 rcases h with rfl | rfl | rfl
 ·left; omega
 ·right; left; omega
 ·right; right; omega
end Gs
namespace Gs
theorem Ze {cs cs' : List Cell} (hl : cs'.length = cs.length) (hs : ∀ i : Int, stB cs' i = stB cs i) (a s : Int) : lM cs' a s = lM cs a s := by
 unfold lM Bq
 simp only [hl, hs]
theorem Kp.Ua {cs cs' : List Cell} (h : Kp cs cs') (i : Int) : gI cs' i = gI cs i := Ze h.1 (fun j => (h.2 j).1) _ _
theorem Mk.free {cs c1 : List Cell} {i : Int} (h : Kp cs c1) (ho : lH cs i = false) : Mk cs c1 i :=
 ⟨c1, h, by rw [JQ]; rw [h.Ua]; have := of_decide_eq_false ho; exact Classical.not_not.1 this⟩
theorem Kp.trans {a b c : List Cell} (h : Kp a b) (k : Kp b c) : Kp a c := ⟨k.1.trans h.1, fun i => ⟨(k.2 i).1.trans (h.2 i).1, fun hi => ((k.2 i).2 ((h.2 i).1.trans hi)).trans ((h.2 i).2 hi)⟩⟩
theorem Kp.fill {cs : List Cell} {x : Cell} (hx : x.st = false) : ∀ {l : List Int} {c1 : List Cell}, Kp cs c1 → (∀ i ∈ l, (0 ≤ i ∧ i < cs.length) ∧ stB cs i = false) → Kp cs (sV c1 l x)
 | [], _, h, _ => h
 | i :: l, c1, h, hl => by
  have hi := hl i (List.mem_cons_self ..)
  show Kp cs (sV (c1.set i.toNat x) l x)
  rw [← JS x hi.1.1 (by rw [h.1]; exact hi.1.2)]
  exact Kp.fill hx (h.set hi.2 hx) fun j hj => hl j (List.mem_cons_of_mem _ hj)
def oz (cs : List Cell) (l : List Nat) : List Cell := l.foldl (fun c (s : Nat) => if qQ (kP cs s).a = true then c else qY false c s) cs
theorem Gm {cs : List Cell} {l : List Nat} {k s : Nat} (h : l[k]? = some s) : oz cs (l.take (k + 1)) = if qQ (kP cs s).a = true then oz cs (l.take k) else qY false (oz cs (l.take k)) s := by
 unfold oz; rw [List.take_add_one, h]; simp [List.foldl_append]
theorem O9 {P : List Cell → Prop} {cs : List Cell} (h0 : P cs) (hs : ∀ c s, P c → P (qY false c s)) (l : List Nat) : P (oz cs l) := by
 have : ∀ (l : List Nat) (c : List Cell), P c → P (l.foldl (fun c (s : Nat) => if qQ (kP cs s).a = true then c else qY false c s) c) := by
  intro l
  induction l with
  | nil => exact fun _ h => h
  | cons s l ih => exact fun c h => ih _ (by show P (if _ then _ else _); split; exact h; exact hs c s h)
 exact this l cs h0
theorem uS (cs : List Cell) (l : List Nat) : cs.length = (oz cs l).length := (O9 (P := fun c => c.length = cs.length) rfl (fun c s h => by rw [CP]; exact h) l).symm
theorem Bo {cs : List Cell} (h : jh cs) (l : List Nat) : jh (oz cs l) := O9 h (fun c s h => Ui h s) l
theorem Nw (cs : List Cell) (l : List Nat) (i : Int) : stB (oz cs l) i = stB cs i := O9 (P := fun c => stB c i = stB cs i) rfl (fun c s h => by rw [Uj]; exact h) l
theorem ahy {cs : List Cell} {s : Nat} {l : List Nat} (h : s ∉ l) : bK (oz cs l) s = bK cs s := by
 have : ∀ (l : List Nat) (c : List Cell), s ∉ l → bK (l.foldl (fun c (s : Nat) => if qQ (kP cs s).a = true then c else qY false c s) c) s = bK c s := by
  intro l
  induction l with
  | nil => exact fun _ _ => rfl
  | cons t l ih =>
   intro c hs
   have ht : s ≠ t := fun e => hs (by rw [e]; exact List.mem_cons_self ..)
   rw [List.foldl_cons, ih _ (fun hm => hs (List.mem_cons_of_mem _ hm))]
   split
   ·rfl
   ·rw [zA, if_neg (fun hh => ht (by have := hh.1; omega))]
 exact this l cs h
theorem Gn {cs : List Cell} {k s : Nat} (hx : (bW cs)[k]? = some s) : (kP (oz cs ((bW cs).take k)) s).a = (kP cs s).a := by
 show (bK _ _).b % 64 = (bK _ _).b % 64
 rw [ahy (KP hx)]
theorem Pw.opn {r c cur : Int} {n : Nat} {cs : List Cell} (h : Pw r c n cs cur) (l : List Nat) : Pw r c n (oz cs l) cur := ⟨by rw [← uS]; exact h.1, Bo h.2.1 l, h.2.2⟩
end Gs
namespace Go.Sh
open Go
theorem ajw {k : Nat} {v v' : Value} (h : v = .int .i64 k) (h' : v' = .int .i64 ((k : Int) - 1)) (hk : 0 < k) : (RowKit.intOf v').toNat < (RowKit.intOf v).toNat := by
 subst h; subst h'
 simp only [RowKit.intOf]
 omega
theorem Y7 {b : Nat} : ¬ aH (.slice none 0 0) b := fun h => by cases h
end Go.Sh
namespace Gs
theorem adZ {N i j x : Int} (h : x ∈ qL N i j) : 0 ≤ x ∧ x < N := by
 obtain ⟨k, hk⟩ := List.getElem?_of_mem h
 exact Uk hk
def ER (k q : Int) (cs c1 : List Cell) (cur cur1 : Int) : Prop :=
 ((k = 1 ∨ k = 10 ∨ k = 12 ∨ k = 14 ∨ k = 15) ∧ ((q = 0 ∧ jB cs cur = true ∧ Mk cs c1 cur) ∨ (q ≠ 0 ∧ c1 = cs ∧ cur1 = cur))) ∨ (k = 11 ∧ q = 0) ∨
  (¬ (k = 1 ∨ k = 10 ∨ k = 11 ∨ k = 12 ∨ k = 14 ∨ k = 15) ∧ q = 0 ∧ c1 = cs ∧ cur1 = cur)
end Gs
namespace Gs
def PR (k e st : Int) (cs c1 : List Cell) (cur : Int) : Prop :=
 k ≠ 11 → ((k = 1 ∨ k = 10 ∨ k = 12 ∨ k = 14 ∨ k = 15) ∧ e = 0 ∧ jB cs cur = true ∧ Mk cs c1 cur) ∨ (c1 = cs ∧ (e = 0 → st = 1 → ¬ (k = 1 ∨ k = 10 ∨ k = 12 ∨ k = 14 ∨ k = 15)))
theorem PR.keep {k e st : Int} {cs : List Cell} {cur : Int} (h : e = 0 → st = 1 → ¬ (k = 1 ∨ k = 10 ∨ k = 12 ∨ k = 14 ∨ k = 15)) : PR k e st cs cs cur := fun _ => .inr ⟨rfl, h⟩
theorem ER.pr {k q st : Int} {cs c1 : List Cell} {cur cur1 : Int} (h : ER k q cs c1 cur cur1) : PR k q st cs c1 cur := fun hk => by
 rcases h with ⟨h1, ⟨h2, h3, h4⟩ | ⟨h2, h3, _⟩⟩ | ⟨h1, _⟩ | ⟨h1, h2, h3, _⟩
 ·exact .inl ⟨h1, h2, h3, h4⟩
 ·exact .inr ⟨h3, fun h => absurd h h2⟩
 ·exact absurd h1 hk
 ·exact .inr ⟨h3, fun _ _ h => h1 (by omega)⟩
end Gs
end
section
namespace Go.Proofs.YtjdoakbadehicaaGreatDoor
open Go Go.Sh
set_option maxRecDepth 100000
theorem We {x : Int} {w : World} (hx : 0 ≤ x ∧ x ≤ 255) :
    oX 126 #[Z.u x] w fun e w' => e = .returned (.bool (decide (x / 32 % 2 = 1 ∧ x / 16 % 2 = 1))) ∧ aA no w w' := by
 refine YX.calls ?_
 unfold YX
 have hF : aA no w w := Fr.refl _ _ _
 refine dU (ny hx) (fun w1 U1 h1 => ?_) (fun w1 U1 h1 => ?_)
 simp only [Z.d, Z.c] at h1
 refine aX (aX ?_)
 refine aB (zt hx) (fun w2 U2 => ?_)
 refine aU ?_
 replace hF := (hF.go0 U1).go0 U2
 exact ⟨yC (by omega), hF⟩
 simp only [Z.d, Z.c] at h1
 refine aQ (aQ (aT ?_))
 replace hF := hF.go0 U1
 exact ⟨Cc (by omega), hF⟩
theorem TL {r c i : Int} {w : World} (hi : 0 ≤ i ∧ i < Gs.aZ r c) (hc : 1 ≤ c ∧ c ≤ 132) (hb : i < 5000) :
    oX 132 #[.agg #[Z.i r, Z.i c], Z.i i] w fun e w' => e = .returned (.tuple #[Z.i (i / c), Z.i (i % c), .bool true]) ∧ aA no w w' := by
 refine YY.calls ?_
 unfold YY
 have hF : aA no w w := Fr.refl _ _ _
 refine Z.x (#[Z.i r, Z.i c]) (fun b1 w1 e1 ah _ U1 => ?_)
 refine jq (lss _ _ _ _) (by omega) ?_
 refine bz (bz ?_)
 refine Z.b 2 (#[Z.i r, Z.i c]) ah ?_
 refine bz ?_
 refine aB (qK (r := r) (c := c)) (fun w2 U2 => ?_)
 refine bz ?_
 refine jq (geq _ _ _ _) (by omega) ?_
 refine aT (aF ?_)
 refine dK (S := no) (fun w3 U3 => ?_)
 refine Z.g 1 ?_
 replace ah := U3.af (U2.af ah)
 refine Z.m ah ?_
 refine bI (fun w' hw' => (an6 _ (by omega) (by omega) (by omega))) ?_
 refine Z.g 1 ?_
 refine Z.m ah ?_
 refine bI (fun w' hw' => (ajm _ (by omega) (by omega) (by omega))) ?_
 refine aI (fun w4 U4 => ?_)
 replace hF := (((hF.go0 U1).go0 U2).go0 U3).go0 U4
 exact ⟨rfl, hF⟩
theorem IY {r c cur : Int} {A : Option Addr} {n cp bp B0 : Nat} {cs : List Gs.Cell} {w : World} (ag : Z.h w bp #[Z.i r, Z.i c, .slice A n cp, Z.i cur] 91) (ae : Own B0 w 37 5 (.slice A n cp) (rows Gs.cv cs)) (hW : Gs.Pw r c n cs cur) {i : Int} :
    oX 131 #[Z.p bp, Z.i i] w fun e w' => ∃ v, e = .returned v ∧ ∃ q : Bool, v = .bool q ∧ aA no w w' := by
 refine YZ.calls ?_
 unfold YZ
 obtain ⟨hn, hcw, hcu, hp, hN, hb⟩ := id hW; have hrc := hW.rc
 have hF : aA no w w := Fr.refl _ _ _
 refine aB (rE ag ae hn hN hb hcw (i := i)) (fun w1 U1 => ?_)
 cases hob : Gs.lH cs i
 refine Z.e ?_
 refine Z.e ?_
 refine Z.n ((Gs.fv Gs.zf).toArray) (fun b2 w2 e2 ax _ U2 => ?_)
 replace hF := hF.go0 U1
 have eU : w.heap.size ≤ b2 := by have := hF.size; omega
 refine Z.t 3 ((Gs.fv (Gs.mf cs i)).toArray) (by (simp [Value.cells, Value.oneCell', Gs.cv, Gs.fv, Gs.ie]; done)) ax (fun w3 N3 _ U3 => ?_)
 refine aQ (aQ (aQ (aQ (aT (aQ (aQ (aQ (aT (aQ (aQ (aQ (aQ (aT ?_)))))))))))))
 replace hF := (hF.go0 U2).go1 U3 eU
 exact ⟨_, rfl, _, rfl, hF⟩
 refine Z.e ?_
 refine Z.e ?_
 refine Z.n ((Gs.fv Gs.zf).toArray) (fun b5 w5 e5 cO _ U5 => ?_)
 replace hF := hF.go0 U1
 have iG : w.heap.size ≤ b5 := by have := hF.size; omega
 refine Z.t 3 ((Gs.fv (Gs.mf cs i)).toArray) (by (simp [Value.cells, Value.oneCell', Gs.cv, Gs.fv, Gs.ie]; done)) cO (fun w6 cO _ U6 => ?_)
 refine aX ?_
 refine Z.f 0 ?_
 refine aX ?_
 refine Z.l cO ?_
 refine aX (aX ?_)
 refine az (cu _ _ _ _ _) (fun h7 => ?_) (fun h7 => ?_)
 refine aU (aX ?_)
 refine Z.f 1 ?_
 refine aX ?_
 refine Z.l cO ?_
 refine aX ?_
 refine az (gtr _ _ _ _) (fun h8 => ?_) (fun h8 => ?_)
 refine aU (aX ?_)
 refine Z.f 2 ?_
 refine aX ?_
 refine Z.l cO ?_
 refine aX ?_
 refine aB (ny (Gs.Y0 hcw i)) (fun w9 U9 => ?_)
 refine aX ?_
 refine au (AP _) ?_
 refine aU ?_
 replace hF := ((hF.go0 U5).go1 U6 iG).go0 U9
 exact ⟨_, rfl, _, rfl, hF⟩
 refine aU (aQ (aQ (aQ (aQ (aT ?_)))))
 replace hF := (hF.go0 U5).go1 U6 iG
 exact ⟨_, rfl, _, rfl, hF⟩
 refine aU (aQ (aQ (aQ (aT (aQ (aQ (aQ (aQ (aT ?_)))))))))
 replace hF := (hF.go0 U5).go1 U6 iG
 exact ⟨_, rfl, _, rfl, hF⟩
theorem vO {r c cur : Int} {A : Option Addr} {n cp bp B0 : Nat} {cs : List Gs.Cell} {w : World} (ag : Z.h w bp #[Z.i r, Z.i c, .slice A n cp, Z.i cur] 91) (ae : Own B0 w 37 5 (.slice A n cp) (rows Gs.cv cs)) (hW : Gs.Pw r c n cs cur) {i j : Int} (hi : 0 ≤ i ∧ i < n) (hj : j = 1 ∨ j = -1) :
    oX 130 #[Z.p bp, Z.i i, Z.i j] w fun e w' => ∃ v, e = .returned v ∧ ∃ x : Int, v = Z.i x ∧ (0 ≤ x ∧ x < n) ∧ aA no w w' := by
 refine Y1.calls ?_
 unfold Y1
 obtain ⟨hn, hcw, hcu, hp, hN, hb⟩ := id hW; have hrc := hW.rc
 have hF : aA no w w := Fr.refl _ _ _
 refine bP (fun g w' => (Z.h w' bp #[Z.i r, Z.i c, .slice A n cp, Z.i cur] 91) ∧ (Own B0 w' 37 5 (.slice A n cp) (rows Gs.cv cs)) ∧ (aA no w w')) (fun J1 hJ1 => ?_) (fun gJ1 jK hI => ?_)
 refine aB (fK ag ae hn) (fun w1 U1 => ?_)
 refine eF (fun g w' => ∃ (k : Nat), (g 11 = Z.i (k : Int)) ∧ (k ≤ n) ∧ (Z.h w' bp #[Z.i r, Z.i c, .slice A n cp, Z.i cur] 91) ∧ (Own B0 w' 37 5 (.slice A n cp) (rows Gs.cv cs)) ∧ (aA no w w')) (fun g w' => n - (RowKit.intOf (g 11)).toNat) ?_ (fun g2 qI hI => ?_)
 replace ae := ae.ai U1
 replace ag := U1.af ag
 replace hF := hF.go0 U1
 exact ⟨0, (by rfl), Nat.zero_le _, ag, ae, hF⟩
 replace ae := ae.ai U1
 replace ag := U1.af ag
 replace hF := hF.go0 U1
 obtain ⟨k, g11, hk, ag, ae, hF⟩ := hI
 rw [g11]
 refine az (lss _ _ _ _) (fun h2 => ?_) (fun h2 => ?_)
 refine aK ?_
 have hkj : (k : Int) * j = k ∨ (k : Int) * j = -(k : Int) := by rcases hj with rfl | rfl <;> omega
 refine au (EW _ (by omega)) ?_
 refine aB (kQ ag ae hn hp hN hb) (fun w3 U3 => ?_)
 replace ae := ae.ai U3
 replace ag := U3.af ag
 refine aN (IY ag ae hW) (fun v4 w4 D4 => ?_)
 obtain ⟨q22, rfl, U4⟩ := D4
 refine jX (fun h5 => ?_) (fun h5 => ?_)
 replace ae := ae.ai U4
 replace ag := U4.af ag
 refine aB (kQ ag ae hn hp hN hb) (fun w6 U6 => ?_)
 replace hF := ((hF.go0 U3).go0 U4).go0 U6
 exact ⟨_, rfl, _, rfl, Gs.jY _ hp, hF⟩
 refine au (dL _ (by omega)) ?_
 replace hF := (hF.go0 U3).go0 U4
 replace ae := ae.ai U4
 replace ag := U4.af ag
 exact ⟨⟨k + 1, (by rfl), by omega, ag, ae, hF⟩, cnt_lt (by rfl) rfl (by omega)⟩
 refine aF ?_
 refine hJ1 _ _ ?_
 exact ⟨ag, ae, hF⟩
 obtain ⟨ag, ae, hF⟩ := hI
 exact ⟨_, rfl, _, rfl, by omega, hF⟩
theorem Ew {r c cur : Int} {A : Option Addr} {n cp bp B0 : Nat} {cs : List Gs.Cell} {w : World} (ag : Z.h w bp #[Z.i r, Z.i c, .slice A n cp, Z.i cur] 91) (ae : Own B0 w 37 5 (.slice A n cp) (rows Gs.cv cs)) (hW : Gs.Pw r c n cs cur)  :
    oX 84 #[Z.p bp] w fun e w' => ∃ v, e = .returned v ∧ ∃ cur, v = Z.i cur ∧ Gs.Pw r c n cs cur ∧ Z.h w' bp #[Z.i r, Z.i c, .slice A n cp, Z.i cur] 91 ∧ aA (· = bp) w w' := by
 refine F84.calls ?_
 unfold F84
 obtain ⟨hn, hcw, hcu, hp, hN, hb⟩ := id hW; have hrc := hW.rc
 have hF : aA (· = bp) w w := Fr.refl _ _ _
 refine aB (dW ag ae hn) (fun w1 U1 => ?_)
 replace ae := ae.ai U1
 replace ag := U1.af ag
 refine aN (vO ag ae hW (i := cur) (j := 1) hcu (.inl rfl)) (fun v2 w2 D2 => ?_)
 obtain ⟨x7, rfl, hx7, U2⟩ := D2
 replace ae := ae.ai U2
 replace ag := U2.af ag
 refine aN (lW ag ae hn (i := x7) (by omega)) (fun v3 w3 D3 => ?_)
 obtain ⟨rfl, N3, U3⟩ := D3
 replace ag := N3
 replace hF := (hF.go0 U1).go0 U2
 replace hF := hF.go U3 (fun i _ h => h)
 exact ⟨_, rfl, _, rfl, hW.at (by omega), ag, hF⟩
theorem TM {r c cur : Int} {A : Option Addr} {n cp bp B0 : Nat} {cs : List Gs.Cell} {w : World} (ag : Z.h w bp #[Z.i r, Z.i c, .slice A n cp, Z.i cur] 91) (ae : Own B0 w 37 5 (.slice A n cp) (rows Gs.cv cs)) (hW : Gs.Pw r c n cs cur)  :
    oX 85 #[Z.p bp] w fun e w' => ∃ v, e = .returned v ∧ ∃ cur, v = Z.i cur ∧ Gs.Pw r c n cs cur ∧ Z.h w' bp #[Z.i r, Z.i c, .slice A n cp, Z.i cur] 91 ∧ aA (· = bp) w w' := by
 refine F85.calls ?_
 unfold F85
 obtain ⟨hn, hcw, hcu, hp, hN, hb⟩ := id hW; have hrc := hW.rc
 have hF : aA (· = bp) w w := Fr.refl _ _ _
 refine aB (dW ag ae hn) (fun w1 U1 => ?_)
 replace ae := ae.ai U1
 replace ag := U1.af ag
 refine aB (rE ag ae hn hN hb hcw) (fun w2 U2 => ?_)
 cases hob : Gs.lH cs cur
 refine Z.e ?_
 refine Z.e ?_
 refine Z.n ((Gs.fv Gs.zf).toArray) (fun b3 w3 e3 bF _ U3 => ?_)
 replace ag := U2.af ag
 have kV : bp ≠ b3 := by have := ak ag; omega
 replace ae := ae.ai U2
 have iH := ae.apart e3
 replace hF := (hF.go0 U1).go0 U2
 have jD : w.heap.size ≤ b3 := by have := hF.size; omega
 refine Z.t 3 ((Gs.fv (Gs.mf cs cur)).toArray) (by (simp [Value.cells, Value.oneCell', Gs.cv, Gs.fv, Gs.ie]; done)) bF (fun w4 N4 _ U4 => ?_)
 refine aQ (aQ (aQ (aQ (aT (aQ (aQ (aQ (aQ (aT (aQ (aQ (aQ (aQ (aQ (aQ (aT (aF ?_)))))))))))))))))
 replace ae := (ae.ai U3).aG U4 iH
 replace ag := U4.aj (U3.af ag) kV
 refine aB (kQ ag ae hn hp hN hb) (fun w5 U5 => ?_)
 have := Gs.jY (cur + -2) (N := n) hp
 replace ae := ae.ai U5
 replace ag := U5.af ag
 refine aN (vO ag ae hW (i := (cur + -2) % (n : Int)) (j := -1) this (.inr rfl)) (fun v6 w6 D6 => ?_)
 obtain ⟨TN, rfl, adY, U6⟩ := D6
 replace ae := ae.ai U6
 replace ag := U6.af ag
 refine aN (lW ag ae hn (i := TN) (by omega)) (fun v7 w7 D7 => ?_)
 obtain ⟨rfl, N7, U7⟩ := D7
 replace ag := N7
 replace hF := (((hF.go0 U3).go1 U4 jD).go0 U5).go0 U6
 replace hF := hF.go U7 (fun i _ h => h)
 exact ⟨_, rfl, _, rfl, hW.at (by omega), ag, hF⟩
 refine Z.e ?_
 refine Z.e ?_
 refine Z.n ((Gs.fv Gs.zf).toArray) (fun b9 w9 e9 jy _ U9 => ?_)
 replace ag := U2.af ag
 have Gf : bp ≠ b9 := by have := ak ag; omega
 replace ae := ae.ai U2
 have zN := ae.apart e9
 replace hF := (hF.go0 U1).go0 U2
 have qj : w.heap.size ≤ b9 := by have := hF.size; omega
 refine Z.t 3 ((Gs.fv (Gs.mf cs cur)).toArray) (by (simp [Value.cells, Value.oneCell', Gs.cv, Gs.fv, Gs.ie]; done)) jy (fun w10 jy _ aW => ?_)
 refine aX (aX ?_)
 refine Z.f 0 ?_
 refine aX ?_
 refine Z.l jy ?_
 refine aX ?_
 replace ae := (ae.ai U9).aG aW zN
 replace ag := aW.aj (U9.af ag) Gf
 refine aN (IY ag ae hW) (fun v11 nT D11 => ?_)
 obtain ⟨q19, rfl, bJ⟩ := D11
 cases hq19 : q19
 refine aU (aQ (aQ (aQ (aQ (aT (aQ (aQ (aQ (aQ (aQ (aQ (aT (aF ?_)))))))))))))
 replace ae := ae.ai bJ
 replace ag := bJ.af ag
 refine aB (kQ ag ae hn hp hN hb) (fun w12 df => ?_)
 have := Gs.jY (cur + -2) (N := n) hp
 replace ae := ae.ai df
 replace ag := df.af ag
 refine aN (vO ag ae hW (i := (cur + -2) % (n : Int)) (j := -1) this (.inr rfl)) (fun v13 uX D13 => ?_)
 obtain ⟨TN, rfl, adY, dE⟩ := D13
 replace ae := ae.ai dE
 replace ag := dE.af ag
 refine aN (lW ag ae hn (i := TN) (by omega)) (fun v14 sJ D14 => ?_)
 obtain ⟨rfl, N14, dm⟩ := D14
 replace ag := N14
 replace hF := ((((hF.go0 U9).go1 aW qj).go0 bJ).go0 df).go0 dE
 replace hF := hF.go dm (fun i _ h => h)
 exact ⟨_, rfl, _, rfl, hW.at (by omega), ag, hF⟩
 refine aU (aX (aX ?_))
 refine Z.f 0 ?_
 refine aX ?_
 replace jy := bJ.af jy
 refine Z.l jy ?_
 refine aX ?_
 refine az (jQ _ _ _ _ _) (fun h16 => ?_) (fun h16 => ?_)
 refine aU (aX (aX (aX ?_)))
 refine Z.f 0 ?_
 refine aX ?_
 refine Z.l jy ?_
 refine aX ?_
 replace ae := ae.ai bJ
 replace ag := bJ.af ag
 refine aB (kQ ag ae hn hp hN hb) (fun uY dh => ?_)
 refine aX ?_
 refine az (jQ _ _ _ _ _) (fun h18 => ?_) (fun h18 => ?_)
 refine aU (aK ?_)
 refine Z.f 0 ?_
 replace jy := dh.af jy
 refine Z.l jy ?_
 replace ae := ae.ai dh
 replace ag := dh.af ag
 refine aB (kQ ag ae hn hp hN hb) (fun Aa eX => ?_)
 have := Gs.jY ((Gs.mf cs cur).s + 1) (N := n) hp
 replace ae := ae.ai eX
 replace ag := eX.af ag
 refine aN (lW ag ae hn (i := ((Gs.mf cs cur).s + 1) % (n : Int)) (by omega)) (fun v20 wY D20 => ?_)
 obtain ⟨rfl, N20, dR⟩ := D20
 replace ag := N20
 replace hF := ((((hF.go0 U9).go1 aW qj).go0 bJ).go0 dh).go0 eX
 replace hF := hF.go dR (fun i _ h => h)
 exact ⟨_, rfl, _, rfl, hW.at (by omega), ag, hF⟩
 refine aU (aF ?_)
 replace ae := ae.ai dh
 replace ag := dh.af ag
 refine aB (kQ ag ae hn hp hN hb) (fun Hy gY => ?_)
 have := Gs.jY (cur + -2) (N := n) hp
 replace ae := ae.ai gY
 replace ag := gY.af ag
 refine aN (vO ag ae hW (i := (cur + -2) % (n : Int)) (j := -1) this (.inr rfl)) (fun v23 ES D23 => ?_)
 obtain ⟨TN, rfl, adY, jg⟩ := D23
 replace ae := ae.ai jg
 replace ag := jg.af ag
 refine aN (lW ag ae hn (i := TN) (by omega)) (fun v24 Ql D24 => ?_)
 obtain ⟨rfl, N24, jH⟩ := D24
 replace ag := N24
 replace hF := (((((hF.go0 U9).go1 aW qj).go0 bJ).go0 dh).go0 gY).go0 jg
 replace hF := hF.go jH (fun i _ h => h)
 exact ⟨_, rfl, _, rfl, hW.at (by omega), ag, hF⟩
 refine aU (aQ (aQ (aQ (aQ (aQ (aQ (aT (aF ?_))))))))
 replace ae := ae.ai bJ
 replace ag := bJ.af ag
 refine aB (kQ ag ae hn hp hN hb) (fun MX je => ?_)
 have := Gs.jY (cur + -2) (N := n) hp
 replace ae := ae.ai je
 replace ag := je.af ag
 refine aN (vO ag ae hW (i := (cur + -2) % (n : Int)) (j := -1) this (.inr rfl)) (fun v27 IV D27 => ?_)
 obtain ⟨TN, rfl, adY, gB⟩ := D27
 replace ae := ae.ai gB
 replace ag := gB.af ag
 refine aN (lW ag ae hn (i := TN) (by omega)) (fun v28 Xh D28 => ?_)
 obtain ⟨rfl, N28, jO⟩ := D28
 replace ag := N28
 replace hF := ((((hF.go0 U9).go1 aW qj).go0 bJ).go0 je).go0 gB
 replace hF := hF.go jO (fun i _ h => h)
 exact ⟨_, rfl, _, rfl, hW.at (by omega), ag, hF⟩
theorem Ns {r c cur : Int} {A : Option Addr} {n cp bp B0 : Nat} {cs : List Gs.Cell} {w : World} (ag : Z.h w bp #[Z.i r, Z.i c, .slice A n cp, Z.i cur] 91) (ae : Own B0 w 37 5 (.slice A n cp) (rows Gs.cv cs)) (hW : Gs.Pw r c n cs cur)  :
    oX 86 #[Z.p bp] w fun e w' => ∃ v, e = .returned v ∧ ∃ cur, v = Z.i cur ∧ Gs.Pw r c n cs cur ∧ Z.h w' bp #[Z.i r, Z.i c, .slice A n cp, Z.i cur] 91 ∧ aA (· = bp) w w' := by
 refine F86.calls ?_
 unfold F86
 obtain ⟨hn, hcw, hcu, hp, hN, hb⟩ := id hW; have hrc := hW.rc
 have hF : aA (· = bp) w w := Fr.refl _ _ _
 refine aB (jZ ag ae hn) (fun w1 U1 => ?_)
 replace ae := ae.ai U1
 replace ag := U1.af ag
 refine aB (dW ag ae hn) (fun w2 U2 => ?_)
 refine aB (TL (r := r) (c := c) (i := cur) (by omega) (by omega) (by omega)) (fun w3 U3 => ?_)
 refine Z.e ?_
 refine Z.e ?_
 refine Z.e ?_
 have hdv : 0 ≤ cur / c ∧ cur / c ≤ 4096 := ⟨Int.ediv_nonneg hcu.1 (by omega), Int.le_trans (Int.ediv_le_self _ hcu.1) (by omega)⟩
 have hmu : 0 ≤ (cur / c + 1) * c ∧ (cur / c + 1) * c ≤ 4097 * 132 := ⟨Int.mul_nonneg (by omega) (by omega), Int.mul_le_mul (by omega) (by omega) (by omega) (by omega)⟩
 refine au (dL _ (by omega)) ?_
 replace ae := (ae.ai U2).ai U3
 replace ag := U3.af (U2.af ag)
 refine aB (jZ ag ae hn) (fun w4 U4 => ?_)
 refine au (qA (off := 1) (by kernel_rfl) (by rfl)) ?_
 refine au (EW _ (by omega)) ?_
 replace ae := ae.ai U4
 replace ag := U4.af ag
 refine aB (kQ ag ae hn hp hN hb) (fun w5 U5 => ?_)
 refine bP (fun g w' => (Z.h w' bp #[Z.i r, Z.i c, .slice A n cp, Z.i cur] 91) ∧ (Own B0 w' 37 5 (.slice A n cp) (rows Gs.cv cs)) ∧ (aA (· = bp) w w')) (fun J1 hJ1 => ?_) (fun gJ1 jK hI => ?_)
 replace ae := ae.ai U5
 replace ag := U5.af ag
 refine aB (fK ag ae hn) (fun w6 U6 => ?_)
 refine eF (fun g w' => ∃ (k : Nat), (g 28 = Z.i (k : Int)) ∧ (k ≤ n) ∧ (Z.h w' bp #[Z.i r, Z.i c, .slice A n cp, Z.i cur] 91) ∧ (Own B0 w' 37 5 (.slice A n cp) (rows Gs.cv cs)) ∧ (aA (· = bp) w w')) (fun g w' => n - (RowKit.intOf (g 28)).toNat) ?_ (fun g2 qI hI => ?_)
 replace hF := (((((hF.go0 U1).go0 U2).go0 U3).go0 U4).go0 U5).go0 U6
 replace ae := ae.ai U6
 replace ag := U6.af ag
 exact ⟨0, (by rfl), Nat.zero_le _, ag, ae, hF⟩
 replace hF := (((((hF.go0 U1).go0 U2).go0 U3).go0 U4).go0 U5).go0 U6
 replace ae := ae.ai U6
 replace ag := U6.af ag
 obtain ⟨k, g28, hk, ag, ae, hF⟩ := hI
 rw [g28]
 refine az (lss _ _ _ _) (fun h7 => ?_) (fun h7 => ?_)
 refine aK ?_
 refine aB (kQ ag ae hn hp hN hb) (fun w8 U8 => ?_)
 replace ae := ae.ai U8
 replace ag := U8.af ag
 refine dU (mV ag ae hn hN hb hcw) (fun w9 U9 h9 => ?_) (fun w9 U9 h9 => ?_)
 refine aK ?_
 have hmo := Gs.jY ((0 + (cur / c + 1) * c) % (n : Int) + (k : Int)) (N := n) hp
 replace ae := ae.ai U9
 replace ag := U9.af ag
 refine aN (lW ag ae hn (i := ((0 + (cur / c + 1) * c) % (n : Int) + (k : Int)) % (n : Int)) (by omega)) (fun v10 w10 D10 => ?_)
 obtain ⟨rfl, N10, aW⟩ := D10
 replace ag := N10
 replace hF := (hF.go0 U8).go0 U9
 replace hF := hF.go aW (fun i _ h => h)
 exact ⟨_, rfl, _, rfl, hW.at (by omega), ag, hF⟩
 refine aF ?_
 refine au (dL _ (by omega)) ?_
 replace hF := (hF.go0 U8).go0 U9
 replace ae := ae.ai U9
 replace ag := U9.af ag
 exact ⟨⟨k + 1, (by rfl), by omega, ag, ae, hF⟩, cnt_lt (by rfl) rfl (by omega)⟩
 refine aF ?_
 refine hJ1 _ _ ?_
 exact ⟨ag, ae, hF⟩
 replace hF := ((((hF.go0 U1).go0 U2).go0 U3).go0 U4).go0 U5
 replace ae := ae.ai U5
 replace ag := U5.af ag
 obtain ⟨ag, ae, hF⟩ := hI
 refine aN (lW ag ae hn (i := 0) (by omega)) (fun v12 w12 D12 => ?_)
 obtain ⟨rfl, N12, df⟩ := D12
 replace ag := N12
 replace hF := hF.go df (fun i _ h => h)
 exact ⟨_, rfl, _, rfl, hW.at (by omega), ag, hF⟩
theorem RD {r c cur : Int} {A : Option Addr} {n cp bp B0 : Nat} {cs : List Gs.Cell} {w : World} (ag : Z.h w bp #[Z.i r, Z.i c, .slice A n cp, Z.i cur] 91) (ae : Own B0 w 37 5 (.slice A n cp) (rows Gs.cv cs)) (hW : Gs.Pw r c n cs cur)  :
    oX 87 #[Z.p bp] w fun e w' => ∃ v, e = .returned v ∧ ∃ cur, v = Z.i cur ∧ Gs.Pw r c n cs cur ∧ Z.h w' bp #[Z.i r, Z.i c, .slice A n cp, Z.i cur] 91 ∧ aA (· = bp) w w' := by
 refine F87.calls ?_
 unfold F87
 obtain ⟨hn, hcw, hcu, hp, hN, hb⟩ := id hW; have hrc := hW.rc
 have hhb := Gs.JR (cs := cs) (by omega)
 have hF : aA (· = bp) w w := Fr.refl _ _ _
 refine aB (Ce ag ae hn hN hb hcw) (fun w1 U1 => ?_)
 replace ae := ae.ai U1
 replace ag := U1.af ag
 refine aN (lW ag ae hn (i := Gs.sU cs) (by omega)) (fun v2 w2 D2 => ?_)
 obtain ⟨rfl, N2, U2⟩ := D2
 replace ag := N2
 replace hF := hF.go0 U1
 replace hF := hF.go U2 (fun i _ h => h)
 exact ⟨_, rfl, _, rfl, hW.at (by omega), ag, hF⟩
theorem yG {r c cur : Int} {A : Option Addr} {n cp bp B0 : Nat} {cs : List Gs.Cell} {w : World} (ag : Z.h w bp #[Z.i r, Z.i c, .slice A n cp, Z.i cur] 91) (ae : Own B0 w 37 5 (.slice A n cp) (rows Gs.cv cs)) (hW : Gs.Pw r c n cs cur) {i j : Int} (hi : -1 ≤ i ∧ i ≤ 1) (hj : -1 ≤ j ∧ j ≤ 1) :
    oX 88 #[Z.p bp, Z.i i, Z.i j] w fun e w' => ∃ v, e = .returned v ∧ ∃ cur, v = Z.i cur ∧ Gs.Pw r c n cs cur ∧ Z.h w' bp #[Z.i r, Z.i c, .slice A n cp, Z.i cur] 91 ∧ aA (· = bp) w w' := by
 refine F88.calls ?_
 unfold F88
 obtain ⟨hn, hcw, hcu, hp, hN, hb⟩ := id hW; have hrc := hW.rc
 have hF : aA (· = bp) w w := Fr.refl _ _ _
 refine aB (jZ ag ae hn) (fun w1 U1 => ?_)
 refine Z.n (#[Z.i 0, Z.i 0]) (fun b2 w2 e2 ax _ U2 => ?_)
 replace ag := U1.af ag
 have eY : bp ≠ b2 := by have := ak ag; omega
 replace ae := ae.ai U1
 have dH := ae.apart e2
 replace hF := hF.go0 U1
 have eU : w.heap.size ≤ b2 := by have := hF.size; omega
 refine ig (n := 2) (by kernel_rfl) (by rfl) (by (simp [Value.cells, Value.oneCell', Gs.cv, Gs.fv, Gs.ie]; done)) ax (Nat.le_of_ble_eq_true rfl) (by (simp; rfl)) (fun w3 ax _ U3 => ?_)
 refine dK (S := no) (fun w4 U4 => ?_)
 replace ae := ((ae.ai U2).aG U3 dH).ai U4
 replace ag := U4.af (U3.aj (U2.af ag) eY)
 refine fM (fun w' hw' => by have ag := hw'.af ag; have ae := ae.ai hw'; exact dW ag ae hn) ?_
 refine Z.g 0 ?_
 replace ax := U4.af ax
 refine Z.m ax ?_
 refine bI (fun w' hw' => (TP _ (by omega) (by omega))) ?_
 refine Z.g 1 ?_
 refine Z.m ax ?_
 have hmr := Gs.ahr i hrc.1 hi
 have hmc := Gs.ajn hmr c
 refine bI (fun w' hw' => (EW _ (by omega))) ?_
 refine fM (fun w' hw' => by have ag := hw'.af ag; have ae := ae.ai hw'; exact kQ ag ae hn hp hN hb) ?_
 refine fM (fun w' hw' => by have ag := hw'.af ag; have ae := ae.ai hw'; exact kQ ag ae hn hp hN hb) ?_
 refine aI (fun w8 U8 => ?_)
 have := Gs.jY (((cur + i.tmod r * c) % (n : Int)) + j) (N := n) hp
 replace ae := ae.ai U8
 replace ag := U8.af ag
 refine aN (lW ag ae hn (by omega)) (fun v9 w9 D9 => ?_)
 obtain ⟨rfl, N9, U9⟩ := D9
 replace ag := N9
 replace hF := (((hF.go0 U2).go1 U3 eU).go0 U4).go0 U8
 replace hF := hF.go U9 (fun i _ h => h)
 refine aI (fun w10 aW => ?_)
 replace ag := aW.af ag
 replace hF := hF.go0 aW
 exact ⟨_, rfl, _, rfl, hW.at (by omega), ag, hF⟩
theorem Y2 {r c cur : Int} {A : Option Addr} {n cp bp B0 : Nat} {cs : List Gs.Cell} {w : World} (ag : Z.h w bp #[Z.i r, Z.i c, .slice A n cp, Z.i cur] 91) (ae : Own B0 w 37 5 (.slice A n cp) (rows Gs.cv cs)) (hW : Gs.Pw r c n cs cur)  :
    oX 74 #[Z.p bp] w fun e w' => ∃ v, e = .returned v ∧ ∃ cur, v = Z.i cur ∧ Gs.Pw r c n cs cur ∧ Z.h w' bp #[Z.i r, Z.i c, .slice A n cp, Z.i cur] 91 ∧ aA (· = bp) w w' := by
 refine Xi.calls ?_
 unfold Xi
 obtain ⟨hn, hcw, hcu, hp, hN, hb⟩ := id hW; have hrc := hW.rc
 have hnx := Gs.jY (cur + 1) (N := n) hp
 have hF : aA (· = bp) w w := Fr.refl _ _ _
 refine aB (dW ag ae hn) (fun w1 U1 => ?_)
 replace ae := ae.ai U1
 replace ag := U1.af ag
 refine aB (kQ ag ae hn hp hN hb) (fun w2 U2 => ?_)
 replace ae := ae.ai U2
 replace ag := U2.af ag
 refine aN (lW ag ae hn (i := (cur + 1) % (n : Int)) (by omega)) (fun v3 w3 D3 => ?_)
 obtain ⟨rfl, N3, U3⟩ := D3
 replace ae := ae.aG U3 (Own.aS ae (by assumption) (by decide))
 replace ag := N3
 replace hF := (hF.go0 U1).go0 U2
 replace hF := hF.go U3 (fun i _ h => h)
 replace hW := hW.at hnx
 obtain ⟨xc, hxe⟩ : ∃ x, x = Gs.bK cs ((cur + 1) % (n : Int)) := ⟨_, rfl⟩
 have hxw := Gs.tu hcw ((cur + 1) % (n : Int))
 refine aB (iw ag ae hn) (fun w4 U4 => ?_)
 rw [← hxe]
 refine Z.n ((Gs.cv Gs.zc).toArray) (fun b5 w5 e5 cO _ U5 => ?_)
 replace ag := U4.af ag
 have kC : bp ≠ b5 := by have := ak ag; omega
 replace ae := ae.ai U4
 have jF := ae.apart e5
 replace hF := hF.go0 U4
 have iG : w.heap.size ≤ b5 := by have := hF.size; omega
 refine Z.t 5 ((Gs.cv xc).toArray) (by (simp [Value.cells, Value.oneCell', Gs.cv, Gs.fv, Gs.ie]; done)) cO (fun w6 cO _ U6 => ?_)
 refine Z.f 2 ?_
 refine pW (kT (by kernel_rfl) cO (by rfl)) (fun h7 => ?_) (fun h7 => ?_)
 refine aX ?_
 refine Z.f 0 ?_
 refine aX ?_
 refine Z.l cO ?_
 refine aX ?_
 refine dU (We (by rw [hxe]; exact hxw)) (fun w8 U8 h8 => ?_) (fun w8 U8 h8 => ?_)
 simp only [Z.d, Z.c] at h8
 refine aU (aK ?_)
 replace ae := ((ae.ai U5).aG U6 jF).ai U8
 replace ag := U8.af (U6.aj (U5.af ag) kC)
 refine aN (Ew ag ae hW) (fun v9 w9 D9 => ?_)
 obtain ⟨cur, rfl, hW, N9, U9⟩ := D9
 obtain ⟨hn, hcw, hcu, hp, hN, hb⟩ := id hW
 replace ag := N9
 replace hF := ((hF.go0 U5).go1 U6 iG).go0 U8
 replace hF := hF.go U9 (fun i _ h => h)
 exact ⟨_, rfl, _, rfl, hW.at (by omega), ag, hF⟩
 simp only [Z.d, Z.c] at h8
 refine aU (aF ?_)
 refine Z.f 2 ?_
 replace cO := U8.af cO
 refine pW (kT (by kernel_rfl) cO (by rfl)) (fun h11 => ?_) (fun h11 => ?_)
 refine aK ?_
 replace ae := ((ae.ai U5).aG U6 jF).ai U8
 replace ag := U8.af (U6.aj (U5.af ag) kC)
 refine aB (kQ ag ae hn hp hN hb) (fun w12 df => ?_)
 have := Gs.jY ((cur + 1) % (n : Int) + 1) (N := n) hp
 replace ae := ae.ai df
 replace ag := df.af ag
 refine aN (lW ag ae hn (by omega)) (fun v13 uX D13 => ?_)
 obtain ⟨rfl, N13, dE⟩ := D13
 replace ag := N13
 replace hF := (((hF.go0 U5).go1 U6 iG).go0 U8).go0 df
 replace hF := hF.go dE (fun i _ h => h)
 exact ⟨_, rfl, _, rfl, hW.at (by omega), ag, hF⟩
 refine aF ?_
 replace ag := U8.af (U6.aj (U5.af ag) kC)
 replace hF := ((hF.go0 U5).go1 U6 iG).go0 U8
 exact ⟨_, rfl, _, rfl, hW.at (by omega), ag, hF⟩
 refine aQ (aQ (aQ (aT (aF ?_))))
 refine Z.f 2 ?_
 refine pW (kT (by kernel_rfl) cO (by rfl)) (fun h16 => ?_) (fun h16 => ?_)
 refine aK ?_
 replace ae := (ae.ai U5).aG U6 jF
 replace ag := U6.aj (U5.af ag) kC
 refine aB (kQ ag ae hn hp hN hb) (fun uY dh => ?_)
 have := Gs.jY ((cur + 1) % (n : Int) + 1) (N := n) hp
 replace ae := ae.ai dh
 replace ag := dh.af ag
 refine aN (lW ag ae hn (by omega)) (fun v18 xh D18 => ?_)
 obtain ⟨rfl, N18, dO⟩ := D18
 replace ag := N18
 replace hF := ((hF.go0 U5).go1 U6 iG).go0 dh
 replace hF := hF.go dO (fun i _ h => h)
 exact ⟨_, rfl, _, rfl, hW.at (by omega), ag, hF⟩
 refine aF ?_
 replace ag := U6.aj (U5.af ag) kC
 replace hF := (hF.go0 U5).go1 U6 iG
 exact ⟨_, rfl, _, rfl, hW.at (by omega), ag, hF⟩
theorem Nu {x : Int} {w : World} (hx : 0 ≤ x ∧ x ≤ 255) :
    oX 119 #[Z.u x] w fun e w' => e = .returned (.bool (decide ((240 ≤ x ∧ x ≤ 249) ∨ x = 75 ∨ x = 96 ∨ x = 28))) ∧ aA no w w' := by
 refine Y3.calls ?_
 unfold Y3
 have hF : aA no w w := Fr.refl _ _ _
 refine dU (TG (b := x)) (fun w1 U1 h1 => ?_) (fun w1 U1 h1 => ?_)
 simp only [Z.d, Z.c] at h1
 refine bu (bu (aU (bu (bu (aU (bu (bu (aU ?_))))))))
 replace hF := hF.go0 U1
 exact ⟨Iq (by omega), hF⟩
 simp only [Z.d, Z.c] at h1
 refine bz (bz ?_)
 refine az (cu _ _ _ _ _) (fun h3 => ?_) (fun h3 => ?_)
 refine aT (bu (bu (aU (bu (bu (aU ?_))))))
 replace hF := hF.go0 U1
 exact ⟨Iq (by omega), hF⟩
 refine aT (bz (bz ?_))
 refine az (cu _ _ _ _ _) (fun h5 => ?_) (fun h5 => ?_)
 refine aT (bu (bu (aU ?_)))
 replace hF := hF.go0 U1
 exact ⟨Iq (by omega), hF⟩
 refine aT (bz (bz ?_))
 refine au (cu _ _ _ _ _) ?_
 refine aT ?_
 replace hF := hF.go0 U1
 exact ⟨yC (by omega), hF⟩
theorem IZ {r c cur : Int} {A : Option Addr} {n cp bp B0 : Nat} {cs : List Gs.Cell} {w : World} (ag : Z.h w bp #[Z.i r, Z.i c, .slice A n cp, Z.i cur] 91) (ae : Own B0 w 37 5 (.slice A n cp) (rows Gs.cv cs)) (hW : Gs.Pw r c n cs cur) {i : Int} (hi : 0 ≤ i ∧ i < n) :
    oX 120 #[Z.p bp, Z.i i] w fun e w' => ∃ v, e = .returned v ∧ ∃ (l : List Int) (A' : Option Addr) (c' : Nat), v = .slice A' l.length c' ∧ Rd w' A' (vals .i64 l) ∧ vG A' (vals .i64 l) w.heap.size ∧ Gs.vg cs l ∧ l.length ≤ n ∧ (Gs.jB cs i = true → l ≠ []) ∧ aA no w w' := by
 refine Y4.calls ?_
 unfold Y4
 obtain ⟨hn, hcw, hcu, hp, hN, hb⟩ := id hW; have hrc := hW.rc
 obtain ⟨i0, rfl⟩ := Int.eq_ofNat_of_zero_le hi.1
 have hiC : 0 ≤ (i0 : Int) ∧ (i0 : Int) < cs.length := by omega
 have wJ := ak ag
 have l7 := Own.lt ae
 have hF : aA no w w := Fr.refl _ _ _
 refine Z.x _ (fun b1 w1 e1 ah _ U1 => ?_)
 have kD : bp ≠ b1 := by have := ak ag; omega
 have ik := ae.apart e1
 have bZ : w.heap.size ≤ b1 := by have := hF.size; omega
 refine Z.n (#[.slice none 0 0]) (fun b2 w2 e2 ax _ U2 => ?_)
 replace ag := U1.af ag
 have eY : bp ≠ b2 := by have := ak ag; omega
 replace ae := ae.ai U1
 have dH := ae.apart e2
 have lS : b1 ≠ b2 := by have := ak ah; omega
 replace hF := hF.go0 U1
 have eU : w.heap.size ≤ b2 := by have := hF.size; omega
 replace ah := U2.af ah
 refine Z.l ah ?_
 replace ae := ae.ai U2
 replace ag := U2.af ag
 refine aB (rE ag ae hn hN hb hcw (i := (i0 : Int))) (fun w3 U3 => ?_)
 refine Z.e ?_
 refine Z.e ?_
 refine Z.n ((Gs.fv Gs.zf).toArray) (fun b4 w4 e4 ed _ U4 => ?_)
 replace ag := U3.af ag
 have pY : bp ≠ b4 := by have := ak ag; omega
 replace ae := ae.ai U3
 have l9 := ae.apart e4
 replace ah := U3.af ah
 have o8 : b1 ≠ b4 := by have := ak ah; omega
 replace ax := U3.af ax
 have Gg : b2 ≠ b4 := by have := ak ax; omega
 replace hF := (hF.go0 U2).go0 U3
 have mY : w.heap.size ≤ b4 := by have := hF.size; omega
 refine Z.t 3 ((Gs.fv (Gs.mf cs (i0 : Int))).toArray) (by (simp [Value.cells, Value.oneCell', Gs.cv, Gs.fv, Gs.ie]; done)) ed (fun w5 ed _ U5 => ?_)
 refine bP (fun g w' => (Gs.lH cs (i0 : Int) = true) ∧ (Z.h w' b1 #[Z.i (i0 : Int)] 3) ∧ (Z.h w' b2 #[.slice none 0 0] 176) ∧ (Z.h w' b4 ((Gs.fv (Gs.mf cs (i0 : Int))).toArray) 173) ∧ (Z.h w' bp #[Z.i r, Z.i c, .slice A n cp, Z.i cur] 91) ∧ (Own B0 w' 37 5 (.slice A n cp) (rows Gs.cv cs)) ∧ (aA no w w')) (fun J1 hJ1 => ?_) (fun gJ1 jK hI => ?_)
 refine au (AP _) ?_
 refine jX (fun h6 => ?_) (fun h6 => ?_)
 refine bP (fun g w' => ∃ (v5 : Value) (l : List Int), (Z.h w' b2 #[v5] 176) ∧ (Own w.heap.size w' 3 1 v5 (vals .i64 l)) ∧ (Gs.vg cs l) ∧ (l.length + i0 = n) ∧ (aA no w w')) (fun J2 hJ2 => ?_) (fun gJ2 Tm hI => ?_)
 replace ae := (ae.ai U4).aG U5 l9
 replace ag := U5.aj (U4.af ag) pY
 replace ah := U5.aj (U4.af ah) o8
 replace ax := U5.aj (U4.af ax) Gg
 replace hF := (hF.go0 U4).go1 U5 mY
 have hob : Gs.lH cs (i0 : Int) = false := by cases hq : Gs.lH cs (i0 : Int) <;> simp_all
 refine Z.l ah ?_
 refine eF (fun g w' => ∃ (k : Nat) (v5 : Value) (l : List Int), (g 8 = Z.i (k : Int)) ∧ (i0 ≤ k ∧ k ≤ n) ∧ (Z.h w' b2 #[v5] 176) ∧ (Own w.heap.size w' 3 1 v5 (vals .i64 l)) ∧ (Gs.vg cs l) ∧ (l.length + i0 = k) ∧ (Z.h w' bp #[Z.i r, Z.i c, .slice A n cp, Z.i cur] 91) ∧ (Own B0 w' 37 5 (.slice A n cp) (rows Gs.cv cs)) ∧ (aA no w w')) (fun g w' => n - (RowKit.intOf (g 8)).toNat) ?_ (fun g3 wl3 hI => ?_)
 exact ⟨i0, _, [], (by rfl), (by omega), ax, (Own.nil _ _ _ _), (Gs.vg.nil _), (by simp), ag, ae, hF⟩
 obtain ⟨k, v5, l, g8, hk, ax, fO, hrk, hll, ag, ae, hF⟩ := hI
 rw [g8]
 refine aB (fK ag ae hn) (fun w7 U7 => ?_)
 refine az (lss _ _ _ _) (fun h8 => ?_) (fun h8 => ?_)
 refine aK ?_
 replace ax := U7.af ax
 refine Z.l ax ?_
 refine dM (e := 3) (m := 1) (z := #[Z.i 0]) (by kernel_rfl) (by kernel_rfl) (by rfl) (by decide) (by (simp [eH, splice, fU, Value.cells, Gs.cv, Gs.fv, Gs.ie]; rfl)) (fun b9 w9 e9 jy _ U9 => ?_)
 have Cf : b2 ≠ b9 := by have := ak ax; omega
 replace fO := fO.ai U7
 have Y5 := fO.apart e9
 replace ag := U7.af ag
 have Gf : bp ≠ b9 := by have := ak ag; omega
 replace ae := ae.ai U7
 have zN := ae.apart e9
 replace hF := hF.go0 U7
 have qj : w.heap.size ≤ b9 := by have := hF.size; omega
 replace fO := fO.ai U9
 replace hF := hF.go0 U9
 refine lw (e := 3) (size := 1) (bytes := 8) (by kernel_rfl) fO (Rd.nG jy) rfl (by (simp [Value.oneCell']; done)) (by simp only [vals_length, List.length_take, List.length_cons, List.length_nil, List.length_append, List.length_map, List.length_range]; omega) (by have := hF.size; omega) (fun v10 w10 N10 hA10 aW => ?_)
 have lI := fO
 have nc10_b9 : ∀ k, aH v10 k → k ≠ b9 := fun k hk e => Or.elim (hA10 k hk) (fun h => Y5 k h e) (fun h => by have := ak jy; omega)
 replace ax := U9.af ax
 replace ax := aW.get ax (fun h => Own.aS lI ax (by decide) _ h rfl)
 replace fO := N10
 replace ag := U9.af ag
 replace ag := aW.get ag (fun h => by (have := Own.ge lI h; omega))
 replace ae := ae.ai U9
 replace ae := ae.dY aW (fun k hk hs => by have := l7 k hk; have := (Own.ge lI hs).1; omega)
 replace hF := hF.go aW (fun i h hs => by (have := (Own.ge lI hs).1; omega))
 clear lI
 refine mQ (by kernel_rfl) (Own.Ep fO).1 (Own.Ep fO).2 ax (Nat.le_of_ble_eq_true rfl) (by (simp [ul]; rfl)) (fun nT ax _ bJ => ?_)
 replace fO := fO.aG bJ (Own.aS fO (by assumption) (by decide))
 refine au (dL _ (by omega)) ?_
 replace ae := ae.aG bJ dH
 replace ag := bJ.aj ag eY
 replace hF := hF.go1 bJ eU
 exact ⟨⟨k + 1, _, _, (by rfl), (by omega), ax, (LD fO), (hrk.snoc (Gs.TQ hiC hob (by omega))), (by simp only [List.length_append, List.length_cons, List.length_nil]; omega), ag, ae, hF⟩, cnt_lt (by rfl) rfl (by omega)⟩
 refine aF ?_
 refine hJ2 _ _ ?_
 replace fO := fO.ai U7
 replace ax := U7.af ax
 replace hF := hF.go0 U7
 exact ⟨_, _, ax, fO, hrk, (by omega), hF⟩
 replace ax := U5.aj (U4.af ax) Gg
 replace hF := (hF.go0 U4).go1 U5 mY
 obtain ⟨v5, l, ax, fO, hrk, hll, hF⟩ := hI
 refine Z.l ax ?_
 show lX [] _ _
 obtain ⟨A5, c5, rfl, TR⟩ := fO.bH
 exact ⟨_, rfl, l, _, _, rfl, TR, .inr fun k hk => (fO.KF k hk).1, hrk, by omega, by (intro _ h; rw [h] at hll; simp only [List.length_nil] at hll; omega), hF⟩
 refine hJ1 _ _ ?_
 replace ae := (ae.ai U4).aG U5 l9
 replace ag := U5.aj (U4.af ag) pY
 replace ah := U5.aj (U4.af ah) o8
 replace ax := U5.aj (U4.af ax) Gg
 replace hF := (hF.go0 U4).go1 U5 mY
 exact ⟨(by cases hq : Gs.lH cs (i0 : Int) <;> simp_all), ah, ax, ed, ag, ae, hF⟩
 replace ae := (ae.ai U4).aG U5 l9
 replace ag := U5.aj (U4.af ag) pY
 replace ah := U5.aj (U4.af ah) o8
 replace ax := U5.aj (U4.af ax) Gg
 replace hF := (hF.go0 U4).go1 U5 mY
 obtain ⟨hob, ah, ax, ed, ag, ae, hF⟩ := hI
 refine bP (fun g w' => ∃ (D5 : Nat) (v5 : Value) (l : List Int), (g 1000000 = mkV D5 undef) ∧ (w.heap.size ≤ D5) ∧ (w'.heap[D5]? = some (.deferred (some []))) ∧ (Z.h w' b2 #[v5] 176) ∧ (Own w.heap.size w' 3 1 v5 (vals .i64 l)) ∧ (Gs.vg cs l) ∧ (l.length ≤ n) ∧ (Gs.jB cs (i0 : Int) = true → l ≠ []) ∧ (aA no w w')) (fun J4 hJ4 => ?_) (fun gJ4 wJ4 hI => ?_)
 refine Z.b 3 ((Gs.fv (Gs.mf cs (i0 : Int))).toArray) ed ?_
 refine aN (zu ag ae hn (f := Gs.mf cs (i0 : Int))) (fun v14 sJ D14 => ?_)
 obtain ⟨b1_32, b2_32, rfl, g1_32, g2_32, fF, fG, dm⟩ := D14
 have aln : b1 ≠ b1_32 := by have := ak ah; omega
 have KJ : b2 ≠ b1_32 := by have := ak ax; omega
 have alo : b4 ≠ b1_32 := by have := ak ed; omega
 have alp : bp ≠ b1_32 := by have := ak ag; omega
 have ahs : ∀ k, aH _ k → k ≠ b1_32 := fun k hk => by have := (Own.ge ae hk).2; omega
 have aoo : w.heap.size ≤ b1_32 := by have := hF.size; omega
 have alq : b1 ≠ b2_32 := by have := ak ah; omega
 have KL : b2 ≠ b2_32 := by have := ak ax; omega
 have alr : b4 ≠ b2_32 := by have := ak ed; omega
 have als : bp ≠ b2_32 := by have := ak ag; omega
 have aht : ∀ k, aH _ k → k ≠ b2_32 := fun k hk => by have := (Own.ge ae hk).2; omega
 have aop : w.heap.size ≤ b2_32 := by have := hF.size; omega
 refine um (by kernel_rfl) (fun tX l5 D5 Rdy5 Bsy5 Dn5 y5 eD el dI dX lp1 lp2 lp3 sz15 bU hY => ?_)
 have lp2_5 := lp2
 replace ah := dm.af ah
 have TS : b1 ≠ D5 := by have := ak ah; omega
 have mF : b1 ≠ l5 := by have := ak ah; omega
 replace ax := dm.af ax
 have TT : b2 ≠ D5 := by have := ak ax; omega
 have vP : b2 ≠ l5 := by have := ak ax; omega
 replace ed := dm.af ed
 have aoq : b4 ≠ D5 := by have := ak ed; omega
 have aor : b4 ≠ l5 := by have := ak ed; omega
 replace ag := dm.af ag
 have TU : bp ≠ D5 := by have := ak ag; omega
 have lT : bp ≠ l5 := by have := ak ag; omega
 replace ae := ae.ai dm
 have zO : ∀ k, aH _ k → k ≠ D5 := fun k hk => by have := (Own.ge ae hk).2; omega
 have ja : ∀ k, aH _ k → k ≠ l5 := fun k hk => by have := (Own.ge ae hk).2; omega
 have alu : b1_32 ≠ D5 := by have := ak fF; omega
 have uN : b1_32 ≠ l5 := by have := ak fF; omega
 have alv : b2_32 ≠ D5 := by have := ak fG; omega
 have uO : b2_32 ≠ l5 := by have := ak fG; omega
 replace hF := hF.go0 dm
 have yH : w.heap.size ≤ D5 := by have := hF.size; omega
 have ql : w.heap.size ≤ l5 := by have := hF.size; omega
 have lF : D5 ≠ l5 := by omega
 replace ae := ae.ai bU
 replace ah := bU.af ah
 replace ax := bU.af ax
 replace ag := bU.af ag
 replace fF := bU.af fF
 replace fG := bU.af fG
 replace hF := hF.go0 bU
 refine Calls.mono (Ci (b1 := b1_32) (b2 := b2_32) (J := (fun (k : Nat) (w' : World) => ∃ (v5 : Value) (l : List Int), (Z.h w' b2 #[v5] 176) ∧ (Own w.heap.size w' 3 1 v5 (vals .i64 l)) ∧ (Gs.vg cs l) ∧ (l.length ≤ k) ∧ (∀ j, j < k → (Gs.iJ n (Gs.mf cs (i0 : Int)))[j]? = some (i0 : Int) → l ≠ []) ∧ (¬ aH v5 b1) ∧ (Z.h w' b1 #[Z.i (i0 : Int)] 3) ∧ (Z.h w' bp #[Z.i r, Z.i c, .slice A n cp, Z.i cur] 91) ∧ (Own B0 w' 37 5 (.slice A n cp) (rows Gs.cv cs)) ∧ (Z.h w' b1_32 #[Z.p bp] 33) ∧ (Z.h w' b2_32 ((Gs.fv (Gs.mf cs (i0 : Int))).toArray) 173) ∧ (w'.heap[D5]? = some (.deferred (some []))) ∧ (w'.heap[l5]? = some Rdy5) ∧ (aA no w w'))) (X := (fun _ => False)) (fun _ w' hJ => by obtain ⟨v5, l, ax, fO, hrk, hll, hnz, hs3, ah, ag, ae, fF, fG, dI, dX, hF⟩ := hJ; exact ⟨fF, fG, ag, ae⟩) (fun _ w' w'' hJ U' => by obtain ⟨v5, l, ax, fO, hrk, hll, hnz, hs3, ah, ag, ae, fF, fG, dI, dX, hF⟩ := hJ; exact ⟨v5, l, U'.af ax, fO.ai U', hrk, hll, hnz, hs3, U'.af ah, U'.af ag, ae.ai U', U'.af fF, U'.af fG, U'.af dI, U'.af dX, hF.go0 U'⟩) (fun _ _ h _ => h.elim) (fun _ h => h.elim) hn hN hb ?_ ?_) ?_
 intro k wl5 xk hx hI
 obtain ⟨v5, l, ax, fO, hrk, hll, hnz, hs3, ah, ag, ae, fF, fG, dI, dX, hF⟩ := hI
 obtain ⟨A5, c5, rfl, _⟩ := fO.bH
 have hk := (List.getElem?_eq_some_iff.1 hx).1
 have hxb := Gs.Gh hx
 have hple := Gs.DL n (Gs.mf cs (i0 : Int))
 refine hY [Z.i xk] _ _ rfl dX ?_
 simp only [List.getD_cons_zero, List.getD_cons_succ]
 refine xn dX (fun w16 dX _ bQ => ?_)
 replace fO := fO.aG bQ (Own.iZ fO (by assumption) (by assumption))
 replace ah := bQ.aj ah mF
 refine Z.l ah ?_
 refine az (cu _ _ _ _ _) (fun h17 => ?_) (fun h17 => ?_)
 refine bu (bu (bu (aU (aK ?_))))
 replace ax := bQ.aj ax vP
 refine Z.l ax ?_
 refine dM (e := 3) (m := 1) (z := #[Z.i 0]) (by kernel_rfl) (by kernel_rfl) (by rfl) (by decide) (by (simp [eH, splice, fU, Value.cells, Gs.cv, Gs.fv, Gs.ie]; rfl)) (fun b18 xh e18 Y6 _ dO => ?_)
 have anj : b2 ≠ b18 := by have := ak ax; omega
 have Wh := fO.apart e18
 have abP : b1 ≠ b18 := by have := ak ah; omega
 replace ag := bQ.aj ag lT
 have ank : bp ≠ b18 := by have := ak ag; omega
 replace ae := ae.aG bQ ja
 have ajo := ae.apart e18
 replace fF := bQ.aj fF uN
 have ajp : b1_32 ≠ b18 := by have := ak fF; omega
 replace fG := bQ.aj fG uO
 have ajq : b2_32 ≠ b18 := by have := ak fG; omega
 replace dI := bQ.aj dI lF
 have anl : D5 ≠ b18 := by have := ak dI; omega
 have anm : l5 ≠ b18 := by have := ak dX; omega
 replace hF := hF.go1 bQ ql
 have ajr : w.heap.size ≤ b18 := by have := hF.size; omega
 replace fO := fO.ai dO
 replace hF := hF.go0 dO
 refine lw (e := 3) (size := 1) (bytes := 8) (by kernel_rfl) fO (Rd.nG Y6) rfl (by (simp [Value.oneCell']; done)) (by simp only [vals_length, List.length_take, List.length_cons, List.length_nil, List.length_append, List.length_map, List.length_range]; omega) (by have := hF.size; omega) (fun v19 Aa N19 hA19 eX => ?_)
 have lI := fO
 replace ah := dO.af ah
 have ann := abQ (S' := xh) hs3 ah hA19
 have aos : ∀ k, aH v19 k → k ≠ b18 := fun k hk e => Or.elim (hA19 k hk) (fun h => Wh k h e) (fun h => by have := ak Y6; omega)
 replace ax := dO.af ax
 replace ax := eX.get ax (fun h => Own.aS lI ax (by decide) _ h rfl)
 replace fO := N19
 replace ah := eX.get ah hs3
 replace ag := dO.af ag
 replace ag := eX.get ag (fun h => by (have := Own.ge lI h; omega))
 replace ae := ae.ai dO
 replace ae := ae.dY eX (fun k hk hs => by have := l7 k hk; have := (Own.ge lI hs).1; omega)
 replace fF := dO.af fF
 replace fF := eX.get fF (fun h => Own.aS lI fF (by decide) _ h rfl)
 replace fG := dO.af fG
 replace fG := eX.get fG (fun h => Own.aS lI fG (by decide) _ h rfl)
 replace dI := dO.af dI
 replace dI := eX.get dI (fun h => Own.lq lI dI _ h rfl)
 replace dX := dO.af dX
 replace dX := eX.get dX (fun h => Own.iZ lI dX (by assumption) _ h rfl)
 replace hF := hF.go eX (fun i h hs => by (have := (Own.ge lI hs).1; omega))
 clear lI
 refine mQ (by kernel_rfl) (Own.Ep fO).1 (Own.Ep fO).2 ax (Nat.le_of_ble_eq_true rfl) (by (simp [ul]; rfl)) (fun wY ax _ dR => ?_)
 replace fO := fO.aG dR (Own.aS fO (by assumption) (by decide))
 replace dX := dR.aj dX (Ne.symm vP)
 refine sD dX (fun BQ dX _ dV => ?_)
 replace ae := ae.aG dR dH
 replace ah := dR.aj ah lS
 replace ag := dR.aj ag eY
 replace fF := dR.aj fF (Ne.symm KJ)
 replace fG := dR.aj fG (Ne.symm KL)
 replace dI := dR.aj dI (Ne.symm TT)
 replace hF := hF.go1 dR eU
 replace fO := fO.aG dV (Own.iZ fO (by assumption) (by assumption))
 replace ae := ae.aG dV ja
 replace ax := dV.aj ax vP
 replace ah := dV.aj ah mF
 replace ag := dV.aj ag lT
 replace fF := dV.aj fF uN
 replace fG := dV.aj fG uO
 replace dI := dV.aj dI lF
 replace hF := hF.go1 dV ql
 exact ⟨_, _, ax, (by exact LD fO), (by exact hrk.snoc (Gs.row_in hiC hob (by rw [← hn]; exact hx))), (by (try simp only [List.length_append, List.length_cons, List.length_nil]); omega), (by intro j hj hji; (simp; done)), (by assumption), ah, ag, ae, fF, fG, dI, dX, hF⟩
 refine bz ?_
 replace ax := bQ.aj ax vP
 refine Z.l ax ?_
 refine bz ?_
 refine au (gK (by kernel_rfl) _ _ _) ?_
 refine bz ?_
 refine az (gtr _ _ _ _) (fun h22 => ?_) (fun h22 => ?_)
 refine aT (aK ?_)
 refine Z.l ax ?_
 refine dM (e := 3) (m := 1) (z := #[Z.i 0]) (by kernel_rfl) (by kernel_rfl) (by rfl) (by decide) (by (simp [eH, splice, fU, Value.cells, Gs.cv, Gs.fv, Gs.ie]; rfl)) (fun b23 ES e23 afL _ jg => ?_)
 have ano : b2 ≠ b23 := by have := ak ax; omega
 have Wi := fO.apart e23
 have anp : b1 ≠ b23 := by have := ak ah; omega
 replace ag := bQ.aj ag lT
 have anq : bp ≠ b23 := by have := ak ag; omega
 replace ae := ae.aG bQ ja
 have ajs := ae.apart e23
 replace fF := bQ.aj fF uN
 have ajt : b1_32 ≠ b23 := by have := ak fF; omega
 replace fG := bQ.aj fG uO
 have aju : b2_32 ≠ b23 := by have := ak fG; omega
 replace dI := bQ.aj dI lF
 have anr : D5 ≠ b23 := by have := ak dI; omega
 have ant : l5 ≠ b23 := by have := ak dX; omega
 replace hF := hF.go1 bQ ql
 have ge_b23 : w.heap.size ≤ b23 := by have := hF.size; omega
 replace fO := fO.ai jg
 replace hF := hF.go0 jg
 refine lw (e := 3) (size := 1) (bytes := 8) (by kernel_rfl) fO (Rd.nG afL) rfl (by (simp [Value.oneCell']; done)) (by simp only [vals_length, List.length_take, List.length_cons, List.length_nil, List.length_append, List.length_map, List.length_range]; omega) (by have := hF.size; omega) (fun v24 Ql N24 hA24 jH => ?_)
 have lI := fO
 replace ah := jg.af ah
 have anu := abQ (S' := ES) hs3 ah hA24
 have aot : ∀ k, aH v24 k → k ≠ b23 := fun k hk e => Or.elim (hA24 k hk) (fun h => Wi k h e) (fun h => by have := ak afL; omega)
 replace ax := jg.af ax
 replace ax := jH.get ax (fun h => Own.aS lI ax (by decide) _ h rfl)
 replace fO := N24
 replace ah := jH.get ah hs3
 replace ag := jg.af ag
 replace ag := jH.get ag (fun h => by (have := Own.ge lI h; omega))
 replace ae := ae.ai jg
 replace ae := ae.dY jH (fun k hk hs => by have := l7 k hk; have := (Own.ge lI hs).1; omega)
 replace fF := jg.af fF
 replace fF := jH.get fF (fun h => Own.aS lI fF (by decide) _ h rfl)
 replace fG := jg.af fG
 replace fG := jH.get fG (fun h => Own.aS lI fG (by decide) _ h rfl)
 replace dI := jg.af dI
 replace dI := jH.get dI (fun h => Own.lq lI dI _ h rfl)
 replace dX := jg.af dX
 replace dX := jH.get dX (fun h => Own.iZ lI dX (by assumption) _ h rfl)
 replace hF := hF.go jH (fun i h hs => by (have := (Own.ge lI hs).1; omega))
 clear lI
 refine mQ (by kernel_rfl) (Own.Ep fO).1 (Own.Ep fO).2 ax (Nat.le_of_ble_eq_true rfl) (by (simp [ul]; rfl)) (fun Hz ax _ gz => ?_)
 replace fO := fO.aG gz (Own.aS fO (by assumption) (by decide))
 replace dX := gz.aj dX (Ne.symm vP)
 refine sD dX (fun MX dX _ je => ?_)
 replace ae := ae.aG gz dH
 replace ah := gz.aj ah lS
 replace ag := gz.aj ag eY
 replace fF := gz.aj fF (Ne.symm KJ)
 replace fG := gz.aj fG (Ne.symm KL)
 replace dI := gz.aj dI (Ne.symm TT)
 replace hF := hF.go1 gz eU
 replace fO := fO.aG je (Own.iZ fO (by assumption) (by assumption))
 replace ae := ae.aG je ja
 replace ax := je.aj ax vP
 replace ah := je.aj ah mF
 replace ag := je.aj ag lT
 replace fF := je.aj fF uN
 replace fG := je.aj fG uO
 replace dI := je.aj dI lF
 replace hF := hF.go1 je ql
 exact ⟨_, _, ax, (by exact LD fO), (by exact hrk.snoc (Gs.row_in hiC hob (by rw [← hn]; exact hx))), (by (try simp only [List.length_append, List.length_cons, List.length_nil]); omega), (by intro j hj hji; (simp; done)), (by assumption), ah, ag, ae, fF, fG, dI, dX, hF⟩
 refine aT (aF ?_)
 refine sD dX (fun IV dX _ gB => ?_)
 replace ae := ae.aG bQ ja
 replace ag := bQ.aj ag lT
 replace fF := bQ.aj fF uN
 replace fG := bQ.aj fG uO
 replace dI := bQ.aj dI lF
 replace hF := hF.go1 bQ ql
 replace fO := fO.aG gB (Own.iZ fO (by assumption) (by assumption))
 replace ae := ae.aG gB ja
 replace ax := gB.aj ax vP
 replace ah := gB.aj ah mF
 replace ag := gB.aj ag lT
 replace fF := gB.aj fF uN
 replace fG := gB.aj fG uO
 replace dI := gB.aj dI lF
 replace hF := hF.go1 gB ql
 exact ⟨_, _, ax, (by exact fO), (by exact hrk), (by (try simp only [List.length_append, List.length_cons, List.length_nil]); omega), (by intro j hj hji; (rcases Nat.lt_succ_iff_lt_or_eq.1 hj with h | rfl; exact hnz j h hji; rw [hx] at hji; cases hji; contradiction)), (by assumption), ah, ag, ae, fF, fG, dI, dX, hF⟩
 exact ⟨_, [], ax, (Own.nil _ _ _ _), (Gs.vg.nil _), (Nat.le_refl _), (fun _ h => absurd h (Nat.not_lt_zero _)), Y7, ah, ag, ae, fF, fG, dI, dX, hF⟩
 rintro e wE5 ⟨hv, hI | hI⟩
 obtain ⟨v5, l, ax, fO, hrk, hll, hnz, hs3, ah, ag, ae, fF, fG, dI, dX, hF⟩ := hI
 refine ⟨hv, .inl ⟨dX, fun Xh _ jO => ?_⟩⟩
 replace fO := fO.aG jO (Own.iZ fO (by assumption) (by assumption))
 refine hJ4 _ _ ?_
 replace ax := jO.aj ax vP
 replace dI := jO.aj dI lF
 replace hF := hF.go1 jO ql
 exact ⟨_, _, _, (by rfl), yH, dI, ax, fO, hrk, (by have := Gs.DL n (Gs.mf cs (i0 : Int)); omega), (fun ho => by obtain ⟨j, hj⟩ := Gs.ajv ho hob; rw [← hn] at hj; exact hnz j (List.getElem?_eq_some_iff.1 hj).1 hj), hF⟩
 exact hI.elim
 obtain ⟨D5, v5, l, g1000000, yH, dI, ax, fO, hrk, hll, hnz, hF⟩ := hI
 rw [g1000000]
 refine Z.l ax ?_
 refine leave1 dI (fun w30 _ sK => ?_)
 replace fO := fO.aG sK (Own.lq fO (by assumption))
 obtain ⟨A5, c5, rfl, TR⟩ := fO.bH
 replace hF := hF.go1 sK yH
 exact ⟨_, rfl, l, _, _, rfl, TR, .inr fun k hk => (fO.KF k hk).1, hrk, by omega, by exact hnz, hF⟩
theorem LG {r c cur : Int} {A : Option Addr} {n cp bp B0 b1 : Nat} {cs : List Gs.Cell} {w : World} (ag : Z.h w bp #[Z.i r, Z.i c, .slice A n cp, Z.i cur] 91) (ae : Own B0 w 37 5 (.slice A n cp) (rows Gs.cv cs)) (hW : Gs.Pw r c n cs cur) (ah : Z.h w b1 #[Z.p bp] 33) {i : Int} :
    oX 122 #[Z.i i, Z.p b1] w fun e w' => ∃ v, e = .returned v ∧ ∃ q : Bool, v = .bool q ∧ aA no w w' := by
 refine Y8.calls ?_
 unfold Y8
 obtain ⟨hn, hcw, hcu, hp, hN, hb⟩ := id hW; have hrc := hW.rc
 have hF : aA no w w := Fr.refl _ _ _
 refine Z.l ah ?_
 refine aB (iw ag ae hn (i := i)) (fun w1 U1 => ?_)
 refine au (qA (off := 0) (by kernel_rfl) (by rfl)) ?_
 refine az (cu _ _ _ _ _) (fun h2 => ?_) (fun h2 => ?_)
 refine aX ?_
 replace ah := U1.af ah
 refine Z.l ah ?_
 refine aX (aX ?_)
 replace ae := ae.ai U1
 replace ag := U1.af ag
 refine aB (iw ag ae hn (i := i)) (fun w3 U3 => ?_)
 refine aX ?_
 refine au (qA (off := 1) (by kernel_rfl) (by rfl)) ?_
 refine aX ?_
 refine au (AP _) ?_
 refine aU ?_
 replace hF := (hF.go0 U1).go0 U3
 exact ⟨_, rfl, _, rfl, hF⟩
 refine aQ (aQ (aQ (aQ (aQ (aT ?_)))))
 replace hF := hF.go0 U1
 exact ⟨_, rfl, _, rfl, hF⟩
theorem Wj {r c cur : Int} {A : Option Addr} {n cp bp B0 b1 : Nat} {cs : List Gs.Cell} {w : World} (ag : Z.h w bp #[Z.i r, Z.i c, .slice A n cp, Z.i cur] 91) (ae : Own B0 w 37 5 (.slice A n cp) (rows Gs.cv cs)) (hW : Gs.Pw r c n cs cur) (ah : Z.h w b1 #[Z.p bp] 33) {l : List Int} {A1 : Option Addr} {n1 c1 : Nat} (bH : Rd w A1 (vals .i64 l)) (hl1 : n1 = l.length) (hlb : n1 ≤ 4096) :
    oX 121 #[.slice A1 n1 c1, .func (.func 122) #[] #[Z.p b1]] w fun e w' => ∃ v, e = .returned v ∧ ∃ q : Int, v = Z.i q ∧ (-1 ≤ q ∧ q < n1) ∧ aA no w w' := by
 refine Y9.calls ?_
 unfold Y9
 obtain ⟨hn, hcw, hcu, hp, hN, hb⟩ := id hW; have hrc := hW.rc
 have hF : aA no w w := Fr.refl _ _ _
 refine bP (fun g w' => (aA no w w')) (fun J1 hJ1 => ?_) (fun gJ1 jK hI => ?_)
 refine au (gK (by kernel_rfl) _ _ _) ?_
 refine eF (fun g w' => ∃ (k : Nat), (g 8 = Z.i (k : Int)) ∧ (k ≤ n1) ∧ (Z.h w' bp #[Z.i r, Z.i c, .slice A n cp, Z.i cur] 91) ∧ (Own B0 w' 37 5 (.slice A n cp) (rows Gs.cv cs)) ∧ (Z.h w' b1 #[Z.p bp] 33) ∧ (Rd w' A1 (vals .i64 l)) ∧ (aA no w w')) (fun g w' => n1 - (RowKit.intOf (g 8)).toNat) ?_ (fun g2 qI hI => ?_)
 exact ⟨0, (by rfl), Nat.zero_le _, ag, ae, ah, bH, hF⟩
 obtain ⟨k, g8, hk, ag, ae, ah, bH, hF⟩ := hI
 rw [g8]
 refine az (lss _ _ _ _) (fun h1 => ?_) (fun h1 => ?_)
 refine aK ?_
 refine mO (by kernel_rfl) (by kernel_rfl) bH (by assumption) (by omega) (by omega) (fun x2 hx2 => ?_)
 simp only [Int.toNat_natCast] at hx2
 refine Qq (by kernel_rfl) (by rfl) (aN (LG ag ae hW ah) (fun v3 w3 D3 => ?_))
 obtain ⟨q16, rfl, U3⟩ := D3
 refine jX (fun h4 => ?_) (fun h4 => ?_)
 replace hF := hF.go0 U3
 exact ⟨_, rfl, _, rfl, by omega, hF⟩
 refine au (dL _ (by omega)) ?_
 replace ae := ae.ai U3
 replace bH := bH.ai U3
 replace ag := U3.af ag
 replace ah := U3.af ah
 replace hF := hF.go0 U3
 exact ⟨⟨k + 1, (by rfl), by omega, ag, ae, ah, bH, hF⟩, cnt_lt (by rfl) rfl (by omega)⟩
 refine aF ?_
 refine hJ1 _ _ ?_
 exact hF
 have hF := hI
 exact ⟨_, rfl, _, rfl, by omega, hF⟩
theorem O6 {r c cur : Int} {A : Option Addr} {n cp bp B0 : Nat} {cs : List Gs.Cell} {w : World} (ag : Z.h w bp #[Z.i r, Z.i c, .slice A n cp, Z.i cur] 91) (ae : Own B0 w 37 5 (.slice A n cp) (rows Gs.cv cs)) (hW : Gs.Pw r c n cs cur)  :
    oX 72 #[Z.p bp] w fun e w' => ∃ v, e = .returned v ∧ ∃ (q : Int) (c1 : List Gs.Cell), v = Z.i q ∧ Gs.Pw r c n c1 cur ∧ Gs.Kp cs c1 ∧ (q ≠ 0 → c1 = cs) ∧ Own B0 w' 37 5 (.slice A n cp) (rows Gs.cv c1) ∧ aA (aH (.slice A n cp)) w w' := by
 refine F72.calls ?_
 unfold F72
 obtain ⟨hn, hcw, hcu, hp, hN, hb⟩ := id hW; have hrc := hW.rc
 have hk0 := Gs.Kp.refl cs
 have hF : aA (aH (.slice A n cp)) w w := Fr.refl _ _ _
 refine Z.x _ (fun b1 w1 e1 ah _ U1 => ?_)
 have ik := ae.apart e1
 refine dK (S := no) (fun w2 U2 => ?_)
 replace ah := U2.af ah
 refine Z.m ah ?_
 refine Z.m ah ?_
 replace ae := (ae.ai U1).ai U2
 replace ag := U2.af (U1.af ag)
 refine fM (fun w' hw' => by have ag := hw'.af ag; have ae := ae.ai hw'; exact dW ag ae hn) ?_
 refine aI (fun w4 U4 => ?_)
 replace ae := ae.ai U4
 replace ag := U4.af ag
 refine aN (IZ ag ae hW hcu) (fun v5 w5 D5 => ?_)
 obtain ⟨l8, A8, c8, rfl, rd8, gA8, hr8, hl8, ho8, U5⟩ := D5
 have TV : _ ∨ ∀ k, _ → ¬ aH _ k := gA8.imp_right fun h k hk hs => by have := h k hk; have := (Own.ge ae hs).2; omega
 refine aI (fun w6 U6 => ?_)
 refine au (mkF _ _ _) ?_
 replace ah := U6.af (U5.af (U4.af ah))
 replace ae := (ae.ai U5).ai U6
 replace ag := U6.af (U5.af ag)
 replace rd8 := rd8.ai U6
 refine aN (Wj ag ae hW ah rd8 rfl (by omega)) (fun v7 w7 D7 => ?_)
 obtain ⟨q11, rfl, hq11, U7⟩ := D7
 refine az (lss _ _ _ _) (fun h8 => ?_) (fun h8 => ?_)
 refine aK ?_
 replace hF := (((((hF.go0 U1).go0 U2).go0 U4).go0 U5).go0 U6).go0 U7
 replace ae := ae.ai U7
 exact ⟨_, rfl, _, _, rfl, hW, hk0, (fun _ => rfl), ae, hF⟩
 refine aF ?_
 refine bP (fun g w' => ∃ (c1 : List Gs.Cell), (Gs.Kp cs c1) ∧ (Gs.Pw r c n c1 cur) ∧ (Own B0 w' 37 5 (.slice A n cp) (rows Gs.cv c1)) ∧ (aA (aH (.slice A n cp)) w w')) (fun J1 hJ1 => ?_) (fun gJ1 jK hI => ?_)
 refine eF (fun g w' => ∃ (k : Nat) (c1 : List Gs.Cell), (g 4 = Z.i (k : Int)) ∧ (k < l8.length) ∧ (Gs.Kp cs c1) ∧ (Gs.Pw r c n c1 cur) ∧ (Z.h w' bp #[Z.i r, Z.i c, .slice A n cp, Z.i cur] 91) ∧ (Own B0 w' 37 5 (.slice A n cp) (rows Gs.cv c1)) ∧ (Z.h w' b1 #[Z.p bp] 33) ∧ (Rd w' A8 (vals .i64 l8)) ∧ (vals .i64 l8 = [] ∨ ∀ k, fC A8 k → ¬ aH (.slice A n cp) k) ∧ (aA (aH (.slice A n cp)) w w')) (fun g w' => (RowKit.intOf (g 4)).toNat) ?_ (fun g2 qI hI => ?_)
 replace hF := (((((hF.go0 U1).go0 U2).go0 U4).go0 U5).go0 U6).go0 U7
 replace ae := ae.ai U7
 replace rd8 := rd8.ai U7
 replace ag := U7.af ag
 replace ah := U7.af ah
 exact ⟨q11.toNat, cs, (congrArg (Value.int .i64) (by omega)), (by omega), hk0, hW, ag, ae, ah, rd8, (by assumption), hF⟩
 replace hF := (((((hF.go0 U1).go0 U2).go0 U4).go0 U5).go0 U6).go0 U7
 replace ae := ae.ai U7
 replace rd8 := rd8.ai U7
 replace ag := U7.af ag
 replace ah := U7.af ah
 obtain ⟨k, c1, g4, hk, hk1, hW1, ag, ae, ah, rd8, na_rd8, hF⟩ := hI
 rw [g4]
 refine az (gtr _ _ _ _) (fun h10 => ?_) (fun h10 => ?_)
 refine aK ?_
 refine dK (S := no) (fun nT bJ => ?_)
 replace ah := bJ.af ah
 refine Z.m ah ?_
 replace rd8 := rd8.ai bJ
 refine nM (by kernel_rfl) (by kernel_rfl) (fun w' hw' => rd8.ai hw') (Fr.refl _ _ _) (by rfl) (by omega) (by omega) (fun x12 OZ => ?_)
 simp only [Int.toNat_natCast] at OZ
 refine Z.m ah ?_
 refine bI (fun w' hw' => (xX _ (by omega))) ?_
 refine nM (by kernel_rfl) (by kernel_rfl) (fun w' hw' => rd8.ai hw') (Fr.refl _ _ _) (by rfl) (by omega) (by omega) (fun Xj Cj => ?_)
 replace ae := ae.ai bJ
 replace ag := bJ.af ag
 refine fM (fun w' hw' => by have ag := hw'.af ag; have ae := ae.ai hw'; exact iw ag ae hW1.1 (i := Xj)) ?_
 refine aI (fun tX bU => ?_)
 replace ae := ae.ai bU
 replace ag := bU.af ag
 refine aN (jv ag ae hW1.1 (i := x12) (x := Gs.bK c1 Xj)) (fun v16 w16 D16 => ?_)
 obtain ⟨rfl, N16, bQ⟩ := D16
 have aJ := ae
 replace ag := bQ.get ag (fun h => Own.aS aJ ag (by decide) _ h rfl)
 replace ae := N16
 replace ah := bU.af ah
 replace ah := bQ.get ah (fun h => ik _ h rfl)
 replace rd8 := rd8.ai bU
 replace rd8 := rd8.dY bQ TV
 replace hF := (hF.go0 bJ).go0 bU
 replace hF := hF.go bQ (fun i h hs => by exact hs)
 clear aJ
 refine aI (fun uY dh => ?_)
 refine au (xX _ (by omega)) ?_
 replace ae := ae.ai dh
 replace rd8 := rd8.ai dh
 replace ag := dh.af ag
 replace ah := dh.af ah
 replace hF := hF.go0 dh
 exact ⟨⟨k - 1, _, (congrArg (Value.int .i64) (by omega)), (by omega), (hk1.set (hr8.get OZ).2 (((hk1.2 _).1).trans (hr8.get Cj).2)), (hW1.set _ (Gs.tu hW1.2.1 _)), ag, ae, ah, rd8, (by assumption), hF⟩, ajw (by rfl) rfl (by omega)⟩
 refine aF ?_
 refine hJ1 _ _ ?_
 exact ⟨_, hk1, hW1, ae, hF⟩
 replace hF := (((((hF.go0 U1).go0 U2).go0 U4).go0 U5).go0 U6).go0 U7
 replace ae := ae.ai U7
 obtain ⟨c1, hk1, hW1, ae, hF⟩ := hI
 exact ⟨_, rfl, _, _, rfl, hW1, hk1, (fun h => absurd rfl h), ae, hF⟩
theorem TW {r c cur : Int} {A : Option Addr} {n cp bp B0 : Nat} {cs : List Gs.Cell} {w : World} (ag : Z.h w bp #[Z.i r, Z.i c, .slice A n cp, Z.i cur] 91) (ae : Own B0 w 37 5 (.slice A n cp) (rows Gs.cv cs)) (hW : Gs.Pw r c n cs cur) {x : Int} (hxb : 0 ≤ x ∧ x ≤ 255) :
    oX 71 #[Z.p bp, Z.u x] w fun e w' => ∃ v, e = .returned v ∧ ∃ q : Int, v = Z.i q ∧ (q = 0 → Gs.jB cs cur = true) ∧ aA no w w' := by
 refine Qr.calls ?_
 unfold Qr
 obtain ⟨hn, hcw, hcu, hp, hN, hb⟩ := id hW; have hrc := hW.rc
 have hF : aA no w w := Fr.refl _ _ _
 refine aB (dW ag ae hn) (fun w1 U1 => ?_)
 replace ae := ae.ai U1
 replace ag := U1.af ag
 refine aB (rE ag ae hn hN hb hcw (i := cur)) (fun w2 U2 => ?_)
 cases hob : Gs.lH cs cur
 refine Z.e ?_
 refine Z.e ?_
 refine Z.n ((Gs.fv Gs.zf).toArray) (fun b3 w3 e3 bF _ U3 => ?_)
 replace ag := U2.af ag
 have kV : bp ≠ b3 := by have := ak ag; omega
 replace ae := ae.ai U2
 have iH := ae.apart e3
 replace hF := (hF.go0 U1).go0 U2
 have jD : w.heap.size ≤ b3 := by have := hF.size; omega
 refine Z.t 3 ((Gs.fv (Gs.mf cs cur)).toArray) (by (simp [Value.cells, Value.oneCell', Gs.cv, Gs.fv, Gs.ie]; done)) bF (fun w4 N4 _ U4 => ?_)
 replace ae := (ae.ai U3).aG U4 iH
 replace ag := U4.aj (U3.af ag) kV
 refine aB (dW ag ae hn) (fun w5 U5 => ?_)
 replace ae := ae.ai U5
 replace ag := U5.af ag
 refine dU (mV ag ae hn hN hb hcw (i := cur)) (fun w6 U6 h6 => ?_) (fun w6 U6 h6 => ?_)
 refine au (kz) ?_
 refine aF (aQ (aQ (aQ (aT (aQ (aQ (aQ (aT (aF ?_)))))))))
 replace hF := (((hF.go0 U3).go1 U4 jD).go0 U5).go0 U6
 exact ⟨_, rfl, _, rfl, by exact fun _ => by assumption, hF⟩
 refine au (nP) ?_
 refine aK ?_
 replace hF := (((hF.go0 U3).go1 U4 jD).go0 U5).go0 U6
 exact ⟨_, rfl, _, rfl, by exact fun h => absurd h (by decide), hF⟩
 refine Z.e ?_
 refine Z.e ?_
 refine Z.n ((Gs.fv Gs.zf).toArray) (fun b9 w9 e9 jy _ U9 => ?_)
 replace ag := U2.af ag
 have Gf : bp ≠ b9 := by have := ak ag; omega
 replace ae := ae.ai U2
 have zN := ae.apart e9
 replace hF := (hF.go0 U1).go0 U2
 have qj : w.heap.size ≤ b9 := by have := hF.size; omega
 refine Z.t 3 ((Gs.fv (Gs.mf cs cur)).toArray) (by (simp [Value.cells, Value.oneCell', Gs.cv, Gs.fv, Gs.ie]; done)) jy (fun w10 jy _ aW => ?_)
 replace ae := (ae.ai U9).aG aW zN
 replace ag := aW.aj (U9.af ag) Gf
 refine aB (dW ag ae hn) (fun nT bJ => ?_)
 replace ae := ae.ai bJ
 replace ag := bJ.af ag
 refine dU (mV ag ae hn hN hb hcw (i := cur)) (fun w12 df h12 => ?_) (fun w12 df h12 => ?_)
 refine au (kz) ?_
 refine aF (aX ?_)
 refine Z.f 2 ?_
 refine aX ?_
 replace jy := df.af (bJ.af jy)
 refine Z.l jy ?_
 refine aX ?_
 refine dU (zt (Gs.Y0 hcw cur)) (fun uX dE h13 => ?_) (fun uX dE h13 => ?_)
 simp only [Z.d, Z.c] at h13
 refine aU (aX (aX ?_))
 refine dU (Nu hxb) (fun sJ dm h14 => ?_) (fun sJ dm h14 => ?_)
 simp only [Z.d, Z.c] at h14
 refine aX ?_
 refine au (kz) ?_
 refine aU (aF ?_)
 replace hF := (((((hF.go0 U9).go1 aW qj).go0 bJ).go0 df).go0 dE).go0 dm
 exact ⟨_, rfl, _, rfl, by exact fun _ => by assumption, hF⟩
 simp only [Z.d, Z.c] at h14
 refine aX ?_
 refine au (nP) ?_
 refine aU (aK ?_)
 replace hF := (((((hF.go0 U9).go1 aW qj).go0 bJ).go0 df).go0 dE).go0 dm
 exact ⟨_, rfl, _, rfl, by exact fun _ => by assumption, hF⟩
 simp only [Z.d, Z.c] at h13
 refine aU (aQ (aQ (aQ (aT (aF ?_)))))
 replace hF := ((((hF.go0 U9).go1 aW qj).go0 bJ).go0 df).go0 dE
 exact ⟨_, rfl, _, rfl, by exact fun _ => by assumption, hF⟩
 refine au (nP) ?_
 refine aK ?_
 replace hF := (((hF.go0 U9).go1 aW qj).go0 bJ).go0 df
 exact ⟨_, rfl, _, rfl, by exact fun h => absurd h (by decide), hF⟩
theorem Cm {r c cur : Int} {A : Option Addr} {n cp bp B0 : Nat} {cs : List Gs.Cell} {w : World} (ag : Z.h w bp #[Z.i r, Z.i c, .slice A n cp, Z.i cur] 91) (ae : Own B0 w 37 5 (.slice A n cp) (rows Gs.cv cs)) (hW : Gs.Pw r c n cs cur) {x : Int} {ins : Bool} (hxb : 0 ≤ x ∧ x ≤ 255) :
    oX 37 #[Z.p bp, Z.u x, .bool ins] w fun e w' => ∃ v, e = .returned v ∧ ∃ (q : Int) (c1 : List Gs.Cell) (cur1 : Int), v = Z.i q ∧ Gs.Pw r c n c1 cur1 ∧ ((q = 0 ∧ Gs.jB cs cur = true ∧ Gs.Mk cs c1 cur) ∨ (q ≠ 0 ∧ c1 = cs ∧ cur1 = cur)) ∧ Z.h w' bp #[Z.i r, Z.i c, .slice A n cp, Z.i cur1] 91 ∧ Own B0 w' 37 5 (.slice A n cp) (rows Gs.cv c1) ∧ aA (fun k => aH (.slice A n cp) k ∨ k = bp) w w' := by
 refine Qu.calls ?_
 unfold Qu
 obtain ⟨hn, hcw, hcu, hp, hN, hb⟩ := id hW; have hrc := hW.rc
 have hk0 := Gs.Kp.refl cs
 have hF : aA (fun k => aH (.slice A n cp) k ∨ k = bp) w w := Fr.refl _ _ _
 refine aB (dW ag ae hn) (fun w1 U1 => ?_)
 replace ae := ae.ai U1
 replace ag := U1.af ag
 refine aN (TW ag ae hW hxb) (fun v2 w2 D2 => ?_)
 obtain ⟨e15, rfl, he15, U2⟩ := D2
 refine az (jQ _ _ _ _ _) (fun h3 => ?_) (fun h3 => ?_)
 refine aK ?_
 replace hF := (hF.go0 U1).go0 U2
 replace ae := ae.ai U2
 replace ag := U2.af ag
 exact ⟨_, rfl, _, _, _, rfl, hW, .inr ⟨by assumption, rfl, rfl⟩, ag, ae, hF⟩
 refine aF ?_
 have hop := he15 (Classical.not_not.1 (by assumption))
 replace ae := ae.ai U2
 replace ag := U2.af ag
 refine aB (iw ag ae hn (i := cur)) (fun w5 U5 => ?_)
 refine Z.n ((Gs.cv Gs.zc).toArray) (fun b6 w6 e6 oq _ U6 => ?_)
 replace ag := U5.af ag
 have vS : bp ≠ b6 := by have := ak ag; omega
 replace ae := ae.ai U5
 have pg := ae.apart e6
 replace hF := ((hF.go0 U1).go0 U2).go0 U5
 have xG : w.heap.size ≤ b6 := by have := hF.size; omega
 refine Z.t 5 ((Gs.cv (Gs.bK cs cur)).toArray) (by (simp [Value.cells, Value.oneCell', Gs.cv, Gs.fv, Gs.ie]; done)) oq (fun w7 oq _ U7 => ?_)
 refine bP (fun g w' => ∃ (c1 : List Gs.Cell), (Gs.Kp cs c1) ∧ (Gs.Pw r c n c1 cur) ∧ (Gs.jB cs cur = true) ∧ (Z.h w' bp #[Z.i r, Z.i c, .slice A n cp, Z.i cur] 91) ∧ (Own B0 w' 37 5 (.slice A n cp) (rows Gs.cv c1)) ∧ (Z.h w' b6 ((Gs.cv (Gs.bK cs cur)).toArray) 37) ∧ (aA (fun k => aH (.slice A n cp) k ∨ k = bp) w w')) (fun J1 hJ1 => ?_) (fun gJ1 jK hI => ?_)
 refine jX (fun h8 => ?_) (fun h8 => ?_)
 replace ae := (ae.ai U6).aG U7 pg
 replace ag := U7.aj (U6.af ag) vS
 refine aN (O6 ag ae hW) (fun v9 w9 D9 => ?_)
 obtain ⟨e24, c1, rfl, hW1, hk1, he24, N9, U9⟩ := D9
 have aJ := ae
 replace ag := U9.get ag (fun h => Own.aS aJ ag (by decide) _ h rfl)
 replace ae := N9
 replace oq := U9.get oq (fun h => pg _ h rfl)
 replace hF := (hF.go0 U6).go1 U7 xG
 replace hF := hF.go U9 (fun i h hs => .inl hs)
 clear aJ
 refine az (jQ _ _ _ _ _) (fun h10 => ?_) (fun h10 => ?_)
 refine aK ?_
 exact ⟨_, rfl, _, _, _, rfl, hW1, .inr ⟨by assumption, he24 (by assumption), rfl⟩, ag, ae, hF⟩
 refine aF ?_
 refine hJ1 _ _ ?_
 exact ⟨_, (by exact hk1), (by exact hW1), hop, ag, ae, oq, hF⟩
 refine hJ1 _ _ ?_
 replace ae := (ae.ai U6).aG U7 pg
 replace ag := U7.aj (U6.af ag) vS
 replace hF := (hF.go0 U6).go1 U7 xG
 exact ⟨_, (by exact hk0), (by exact hW), hop, ag, ae, oq, hF⟩
 replace ae := (ae.ai U6).aG U7 pg
 replace ag := U7.aj (U6.af ag) vS
 replace hF := (hF.go0 U6).go1 U7 xG
 obtain ⟨c1, hk1, hW1, hop, ag, ae, oq, hF⟩ := hI
 refine Z.f 3 ?_
 refine Z.l oq ?_
 refine Z.f 4 ?_
 refine Z.l oq ?_
 refine au (bG (l := [(0, 1), (1, 1), (2, 1), (3, 1), (4, 1)]) (z := #[Z.u 0, .bool false, .bool false, Z.u 0, Z.u 0]) (cs := Gs.cv ⟨x, false, false, (Gs.bK cs cur).l, (Gs.bK cs cur).c⟩) (by kernel_rfl) (by rfl)) ?_
 have hw2 := hW1.set cur (x := ⟨x, false, false, (Gs.bK cs cur).l, (Gs.bK cs cur).c⟩) hxb
 have hw3 := hw2.mark cur
 have hmk := Gs.Mk.of (i := cur) (x := ⟨x, false, false, (Gs.bK cs cur).l, (Gs.bK cs cur).c⟩) (Gs.ahu hop) rfl hk1
 refine aN (jv ag ae hW1.1 (i := cur) (x := ⟨x, false, false, (Gs.bK cs cur).l, (Gs.bK cs cur).c⟩)) (fun v13 uX D13 => ?_)
 obtain ⟨rfl, N13, dE⟩ := D13
 have aJ := ae
 replace ag := dE.get ag (fun h => Own.aS aJ ag (by decide) _ h rfl)
 replace ae := N13
 replace hF := hF.go dE (fun i h hs => .inl hs)
 clear aJ
 refine aN (vT ag ae hw2.1 hN hb hw2.2.1 (i := cur)) (fun v14 sJ D14 => ?_)
 obtain ⟨rfl, N14, dm⟩ := D14
 have aJ := ae
 replace ag := dm.get ag (fun h => Own.aS aJ ag (by decide) _ h rfl)
 replace ae := N14
 replace hF := hF.go dm (fun i h hs => .inl hs)
 clear aJ
 refine aN (Y2 ag ae hw3) (fun v15 tX D15 => ?_)
 obtain ⟨cur2, rfl, hW2, N15, bU⟩ := D15
 replace ae := ae.aG bU (Own.aS ae (by assumption) (by decide))
 replace ag := N15
 replace hF := hF.go bU (fun i _ h => .inr h)
 exact ⟨_, rfl, _, _, _, rfl, hW2, .inl ⟨rfl, hop, hmk⟩, ag, ae, hF⟩
theorem Nv {r c cur : Int} {A : Option Addr} {n cp bp B0 : Nat} {cs : List Gs.Cell} {w : World} (ag : Z.h w bp #[Z.i r, Z.i c, .slice A n cp, Z.i cur] 91) (ae : Own B0 w 37 5 (.slice A n cp) (rows Gs.cv cs)) (hW : Gs.Pw r c n cs cur)  :
    oX 91 #[Z.p bp] w fun e w' => ∃ v, e = .returned v ∧ ∃ (q : Int) (c1 : List Gs.Cell) (cur1 : Int), v = Z.i q ∧ Gs.Pw r c n c1 cur1 ∧ ((q = 0 ∧ Gs.jB cs cur = true ∧ Gs.Mk cs c1 cur) ∨ (q ≠ 0 ∧ c1 = cs ∧ cur1 = cur)) ∧ Z.h w' bp #[Z.i r, Z.i c, .slice A n cp, Z.i cur1] 91 ∧ Own B0 w' 37 5 (.slice A n cp) (rows Gs.cv c1) ∧ aA (fun k => aH (.slice A n cp) k ∨ k = bp) w w' := by
 refine F91.calls ?_
 unfold F91
 obtain ⟨hn, hcw, hcu, hp, hN, hb⟩ := id hW; have hrc := hW.rc
 have hk0 := Gs.Kp.refl cs
 have hF : aA (fun k => aH (.slice A n cp) k ∨ k = bp) w w := Fr.refl _ _ _
 refine aB (dW ag ae hn) (fun w1 U1 => ?_)
 replace ae := ae.ai U1
 replace ag := U1.af ag
 refine dU (mV ag ae hn hN hb hcw (i := cur)) (fun w2 U2 h2 => ?_) (fun w2 U2 h2 => ?_)
 refine au (kz) ?_
 refine aF ?_
 have hop : Gs.jB cs cur = true := by assumption
 replace ae := ae.ai U2
 replace ag := U2.af ag
 refine aN (IZ ag ae hW hcu) (fun v3 w3 D3 => ?_)
 obtain ⟨l14, A14, c14, rfl, uV, gA14, hr14, hl14, ho14, U3⟩ := D3
 have RF : _ ∨ ∀ k, _ → ¬ aH _ k := gA14.imp_right fun h k hk hs => by have := h k hk; have := (Own.ge ae hs).2; omega
 have hlz := List.length_pos_iff.2 (ho14 hop)
 refine bP (fun g w' => ∃ (c1 : List Gs.Cell), (Gs.Kp cs c1) ∧ (Gs.Pw r c n c1 cur) ∧ (Z.h w' bp #[Z.i r, Z.i c, .slice A n cp, Z.i cur] 91) ∧ (Own B0 w' 37 5 (.slice A n cp) (rows Gs.cv c1)) ∧ (Rd w' A14 (vals .i64 l14)) ∧ (aA (fun k => aH (.slice A n cp) k ∨ k = bp) w w')) (fun J1 hJ1 => ?_) (fun gJ1 jK hI => ?_)
 refine au (gK (by kernel_rfl) _ _ _) ?_
 refine au (xX _ (by omega)) ?_
 refine eF (fun g w' => ∃ (k : Nat) (c1 : List Gs.Cell), (g 18 = Z.i (k : Int)) ∧ (k ≤ (l14.length - 1)) ∧ (Gs.Kp cs c1) ∧ (Gs.Pw r c n c1 cur) ∧ (Z.h w' bp #[Z.i r, Z.i c, .slice A n cp, Z.i cur] 91) ∧ (Own B0 w' 37 5 (.slice A n cp) (rows Gs.cv c1)) ∧ (Rd w' A14 (vals .i64 l14)) ∧ (aA (fun k => aH (.slice A n cp) k ∨ k = bp) w w')) (fun g w' => (l14.length - 1) - (RowKit.intOf (g 18)).toNat) ?_ (fun g2 qI hI => ?_)
 replace hF := ((hF.go0 U1).go0 U2).go0 U3
 replace ae := ae.ai U3
 replace ag := U3.af ag
 exact ⟨0, cs, (by rfl), Nat.zero_le _, hk0, hW, ag, ae, uV, hF⟩
 replace hF := ((hF.go0 U1).go0 U2).go0 U3
 replace ae := ae.ai U3
 replace ag := U3.af ag
 obtain ⟨k, c1, g18, hk, hk1, hW1, ag, ae, uV, hF⟩ := hI
 rw [g18]
 refine az (lss _ _ _ _) (fun h4 => ?_) (fun h4 => ?_)
 refine aK ?_
 refine dK (S := no) (fun w5 U5 => ?_)
 replace uV := uV.ai U5
 refine nM (by kernel_rfl) (by kernel_rfl) (fun w' hw' => uV.ai hw') (Fr.refl _ _ _) (by rfl) (by omega) (by omega) (fun x6 hx6 => ?_)
 simp only [Int.toNat_natCast] at hx6
 refine bI (fun w' hw' => (dL _ (by omega))) ?_
 refine nM (by kernel_rfl) (by kernel_rfl) (fun w' hw' => uV.ai hw') (Fr.refl _ _ _) (by rfl) (by omega) (by omega) (fun x7 hx7 => ?_)
 replace ae := ae.ai U5
 replace ag := U5.af ag
 refine fM (fun w' hw' => by have ag := hw'.af ag; have ae := ae.ai hw'; exact iw ag ae hW1.1 (i := x7)) ?_
 refine aI (fun w9 U9 => ?_)
 replace ae := ae.ai U9
 replace ag := U9.af ag
 refine aN (jv ag ae hW1.1 (i := x6) (x := Gs.bK c1 x7)) (fun v10 w10 D10 => ?_)
 obtain ⟨rfl, N10, aW⟩ := D10
 have aJ := ae
 replace ag := aW.get ag (fun h => Own.aS aJ ag (by decide) _ h rfl)
 replace ae := N10
 replace uV := uV.ai U9
 replace uV := uV.dY aW RF
 replace hF := (hF.go0 U5).go0 U9
 replace hF := hF.go aW (fun i h hs => .inl hs)
 clear aJ
 refine aI (fun nT bJ => ?_)
 refine au (dL _ (by omega)) ?_
 replace ae := ae.ai bJ
 replace uV := uV.ai bJ
 replace ag := bJ.af ag
 replace hF := hF.go0 bJ
 exact ⟨⟨k + 1, _, (by rfl), by omega, (hk1.set (hr14.get hx6).2 (((hk1.2 _).1).trans (hr14.get hx7).2)), (hW1.set _ (Gs.tu hW1.2.1 _)), ag, ae, uV, hF⟩, cnt_lt (by rfl) rfl (by omega)⟩
 refine aF ?_
 refine hJ1 _ _ ?_
 exact ⟨_, hk1, hW1, ag, ae, uV, hF⟩
 replace hF := ((hF.go0 U1).go0 U2).go0 U3
 replace ae := ae.ai U3
 replace ag := U3.af ag
 obtain ⟨c1, hk1, hW1, ag, ae, uV, hF⟩ := hI
 refine au (gK (by kernel_rfl) _ _ _) ?_
 refine au (xX _ (by omega)) ?_
 refine mO (by kernel_rfl) (by kernel_rfl) uV (by rfl) (by omega) (by omega) (fun x12 OZ => ?_)
 refine au (bG (l := [(0, 1), (1, 1), (2, 1), (3, 1), (4, 1)]) (z := #[Z.u 0, .bool false, .bool false, Z.u 0, Z.u 0]) (cs := (Gs.cv Gs.zc)) (by kernel_rfl) (by rfl)) ?_
 have hw2 := hW1.set x12 Gs.AQ
 have hw3 := hw2.mark cur
 have hmk : Gs.Mk cs (Gs.lV (Gs.gV c1 x12 Gs.zc) cur) cur := ⟨_, hk1.set (hr14.get OZ).2 rfl, rfl⟩
 refine aN (jv ag ae hW1.1 (i := x12) (x := Gs.zc)) (fun v13 uX D13 => ?_)
 obtain ⟨rfl, N13, dE⟩ := D13
 have aJ := ae
 replace ag := dE.get ag (fun h => Own.aS aJ ag (by decide) _ h rfl)
 replace ae := N13
 replace hF := hF.go dE (fun i h hs => .inl hs)
 clear aJ
 refine aN (vT ag ae hw2.1 hN hb hw2.2.1 (i := cur)) (fun v14 sJ D14 => ?_)
 obtain ⟨rfl, N14, dm⟩ := D14
 have aJ := ae
 replace ag := dm.get ag (fun h => Own.aS aJ ag (by decide) _ h rfl)
 replace ae := N14
 replace hF := hF.go dm (fun i h hs => .inl hs)
 clear aJ
 exact ⟨_, rfl, _, _, _, rfl, hw3, .inl ⟨rfl, hop, hmk⟩, ag, ae, hF⟩
 refine au (nP) ?_
 refine aK ?_
 replace hF := (hF.go0 U1).go0 U2
 replace ae := ae.ai U2
 replace ag := U2.af ag
 exact ⟨_, rfl, _, _, _, rfl, hW, .inr ⟨by decide, rfl, rfl⟩, ag, ae, hF⟩
theorem KA {r c cur : Int} {A : Option Addr} {n cp bp B0 b1 b2 : Nat} {f : Gs.qV} {y : Value} {J : Nat → World → Prop} {X : World → Prop} {w : World} (hcap : ∀ k w', J k w' → Z.h w' b1 #[Z.p bp] 33 ∧ Z.h w' b2 ((Gs.fv f).toArray) 173 ∧ Z.h w' bp #[Z.i r, Z.i c, .slice A n cp, Z.i cur] 91 ∧ ∃ cs : List Gs.Cell, n = cs.length ∧ Own B0 w' 37 5 (.slice A n cp) (rows Gs.cv cs)) (hst : ∀ k w' w'', J k w' → aA no w' w'' → J k w'') (hsx : ∀ w' w'', X w' → aA no w' w'' → X w'') (hN : Gs.aZ r c = n) (hb : n ≤ 4096) (hy : ∀ k w' x, (Gs.iJ n f)[k]? = some x → J k w' → EX Tryz.prog y #[Z.i x] w' (J (k + 1)) X) (h0 : J 0 w) :
    oX 161 #[y, Z.p b2, Z.p b1] w fun e w' => (∃ v, e = .returned v) ∧ (J (Gs.iJ n f).length w' ∨ X w') := by
 refine O7.calls ?_
 unfold O7
 obtain ⟨ah, ax, ag, cs, hn, ae⟩ := hcap _ _ h0
 refine dK (S := no) (fun w1 U1 => ?_)
 replace h0 := hst _ _ _ h0 U1
 refine Z.g 0 ?_
 replace ax := U1.af ax
 refine Z.m ax ?_
 refine kF (fun w' hw' => (lss _ _ _ _)) (fun h2 => ?_) (fun h2 => ?_)
 refine jm (jm (jm (jm (jm (kU ?_)))))
 refine aI (fun w3 U3 => ?_)
 replace h0 := hst _ _ _ h0 U3
 refine aK ?_
 exact ⟨⟨_, rfl⟩, .inl (by rw [Gs.xY (by omega)]; exact h0)⟩
 refine eP ?_
 refine Z.g 0 ?_
 refine eP ?_
 refine Z.m ax ?_
 refine eP ?_
 replace ah := U1.af ah
 refine Z.m ah ?_
 refine eP ?_
 replace ae := ae.ai U1
 replace ag := U1.af ag
 refine fM (fun w' hw' => by have ag := hw'.af ag; have ae := ae.ai hw'; exact fK ag ae hn) ?_
 refine eP ?_
 refine kF (fun w' hw' => (geq _ _ _ _)) (fun h6 => ?_) (fun h6 => ?_)
 refine jl ?_
 refine aI (fun w7 U7 => ?_)
 replace h0 := hst _ _ _ h0 U7
 refine aK ?_
 exact ⟨⟨_, rfl⟩, .inl (by rw [Gs.xY (by omega)]; exact h0)⟩
 refine jl ?_
 refine aI (fun w9 U9 => ?_)
 replace h0 := hst _ _ _ h0 U9
 refine aF ?_
 refine dK (S := no) (fun w10 aW => ?_)
 replace h0 := hst _ _ _ h0 aW
 refine Z.g 1 ?_
 replace ax := aW.af (U9.af ax)
 refine Z.m ax ?_
 refine bI (fun w' hw' => (ajx _ _ _ _ _)) ?_
 replace ah := aW.af (U9.af ah)
 refine Z.m ah ?_
 replace ae := (ae.ai U9).ai aW
 replace ag := aW.af (U9.af ag)
 refine fM (fun w' hw' => by have ag := hw'.af ag; have ae := ae.ai hw'; exact fK ag ae hn) ?_
 refine bI (fun w' hw' => (ajy _ _ _ _ _)) ?_
 refine aI (fun w12 df => ?_)
 replace h0 := hst _ _ _ h0 df
 refine eF (fun g w' => ∃ k : Nat, k ≤ (Gs.iJ n f).length ∧ g 21 = Z.i (k : Int) ∧ J k w') (fun g w' => (Gs.iJ n f).length - (RowKit.intOf (g 21)).toNat) ?_ (fun g1 wl1 hI => ?_)
 have hpl := Gs.uo (N := n) (f := f) (by omega)
 exact ⟨0, Nat.zero_le _, rfl, h0⟩
 have hpl := Gs.uo (N := n) (f := f) (by omega)
 obtain ⟨k, hk, g21, hJ⟩ := hI
 rw [g21]
 replace ae := ae.ai df
 replace ah := df.af ah
 replace ax := df.af ax
 replace ag := df.af ag
 obtain ⟨ah, ax, ag, cs, hn, ae⟩ := hcap _ _ hJ
 refine az (lss _ _ _ _) (fun h13 => ?_) (fun h13 => ?_)
 refine aK ?_
 refine dK (S := no) (fun sJ dm => ?_)
 replace hJ := hst _ _ _ hJ dm
 replace ah := dm.af ah
 refine Z.m ah ?_
 replace ae := ae.ai dm
 replace ag := dm.af ag
 refine fM (fun w' hw' => by have ag := hw'.af ag; have ae := ae.ai hw'; exact jZ ag ae hn) ?_
 refine Z.g 0 ?_
 replace ax := dm.af ax
 refine Z.m ax ?_
 refine bI (fun w' hw' => (dL _ (by omega))) ?_
 refine fM (fun w' hw' => mW (i := f.s) (j := (k : Int) + 1)) ?_
 rw [hN, Gs.sF (by omega), show ((k : Int) + 1) = ((k + 1 : Nat) : Int) by omega]
 refine aI (fun uY dh => ?_)
 replace hJ := hst _ _ _ hJ dh
 refine Gi (hy k _ _ (Gs.xZ (by omega)) hJ) (fun wy18 hJ2 => ?_) (fun wy18 hX => ?_)
 replace ae := ae.ai dh
 replace ah := dh.af ah
 replace ax := dh.af ax
 replace ag := dh.af ag
 obtain ⟨ah, ax, ag, cs, hn, ae⟩ := hcap _ _ hJ2
 refine bI (fun w' hw' => (kz)) ?_
 refine aI (fun Aa eX => ?_)
 replace hJ2 := hst _ _ _ hJ2 eX
 refine aF ?_
 refine au (dL _ (by omega)) ?_
 exact ⟨⟨k + 1, by omega, rfl, hJ2⟩, cnt_lt (by rfl) rfl (by omega)⟩
 refine bI (fun w' hw' => (nP)) ?_
 refine aI (fun wY dR => ?_)
 replace hX := hsx _ _ hX dR
 refine aK ?_
 exact ⟨⟨_, rfl⟩, .inr hX⟩
 refine aF ?_
 exact ⟨⟨_, rfl⟩, .inl (by rw [show (Gs.iJ n f).length = k by omega]; exact hJ)⟩
theorem Wl {r c cur : Int} {A : Option Addr} {n cp bp B0 : Nat} {cs : List Gs.Cell} {w : World} (ag : Z.h w bp #[Z.i r, Z.i c, .slice A n cp, Z.i cur] 91) (ae : Own B0 w 37 5 (.slice A n cp) (rows Gs.cv cs)) (hW : Gs.Pw r c n cs cur) {i : Int} :
    oX 134 #[Z.p bp, Z.i i] w fun e w' => ∃ v, e = .returned v ∧ ∃ (k : Int) (q : Bool) (c1 : List Gs.Cell), v = .tuple #[Z.i k, .bool q] ∧ Gs.Pw r c n c1 cur ∧ ((q = true ∧ Gs.jB cs i = true ∧ Gs.Mk cs c1 i) ∨ (q = false ∧ c1 = cs)) ∧ Own B0 w' 37 5 (.slice A n cp) (rows Gs.cv c1) ∧ aA (aH (.slice A n cp)) w w' := by
 refine Za.calls ?_
 unfold Za
 obtain ⟨hn, hcw, hcu, hp, hN, hb⟩ := id hW; have hrc := hW.rc
 have hk0 := Gs.Kp.refl cs
 have wJ := ak ag
 have l7 := Own.lt ae
 have hF : aA (aH (.slice A n cp)) w w := Fr.refl _ _ _
 refine Z.x _ (fun b1 w1 e1 ah _ U1 => ?_)
 have kD : bp ≠ b1 := by have := ak ag; omega
 have ik := ae.apart e1
 have bZ : w.heap.size ≤ b1 := by have := hF.size; omega
 refine Z.x _ (fun b2 w2 e2 ax _ U2 => ?_)
 replace ag := U1.af ag
 have eY : bp ≠ b2 := by have := ak ag; omega
 replace ae := ae.ai U1
 have dH := ae.apart e2
 have lS : b1 ≠ b2 := by have := ak ah; omega
 replace hF := hF.go0 U1
 have eU : w.heap.size ≤ b2 := by have := hF.size; omega
 replace ah := U2.af ah
 refine Z.l ah ?_
 refine Z.l ax ?_
 replace ae := ae.ai U2
 replace ag := U2.af ag
 refine dU (mV ag ae hn hN hb hcw (i := i)) (fun w3 U3 h3 => ?_) (fun w3 U3 h3 => ?_)
 refine au (kz) ?_
 refine aF ?_
 replace ah := U3.af ah
 refine Z.l ah ?_
 replace ax := U3.af ax
 refine Z.l ax ?_
 replace hF := (hF.go0 U2).go0 U3
 replace ae := ae.ai U3
 replace ag := U3.af ag
 have hop : Gs.jB cs i = true := by assumption
 have hiC := Gs.I4 hop
 refine aB (rE ag ae hn hN hb hcw (i := i)) (fun w4 U4 => ?_)
 refine Z.e ?_
 refine Z.e ?_
 refine Z.n ((Gs.fv Gs.zf).toArray) (fun b5 w5 e5 cO _ U5 => ?_)
 replace ag := U4.af ag
 have kC : bp ≠ b5 := by have := ak ag; omega
 replace ae := ae.ai U4
 have jF := ae.apart e5
 replace ah := U4.af ah
 have gU : b1 ≠ b5 := by have := ak ah; omega
 replace ax := U4.af ax
 have nz : b2 ≠ b5 := by have := ak ax; omega
 replace hF := hF.go0 U4
 have iG : w.heap.size ≤ b5 := by have := hF.size; omega
 refine Z.t 3 ((Gs.fv (Gs.mf cs i)).toArray) (by (simp [Value.cells, Value.oneCell', Gs.cv, Gs.fv, Gs.ie]; done)) cO (fun w6 cO _ U6 => ?_)
 refine au (AP _) ?_
 refine jX (fun h7 => ?_) (fun h7 => ?_)
 refine dK (S := no) (fun w8 U8 => ?_)
 replace ah := U8.af (U6.aj (U5.af ah) gU)
 refine Z.m ah ?_
 replace ae := ((ae.ai U5).aG U6 jF).ai U8
 replace ag := U8.af (U6.aj (U5.af ag) kC)
 replace ax := U8.af (U6.aj (U5.af ax) nz)
 replace hF := ((hF.go0 U5).go1 U6 iG).go0 U8
 have hob : Gs.lH cs i = false := by cases hq : Gs.lH cs i <;> simp_all
 refine fM (fun w' hw' => by have ag := hw'.af ag; have ae := ae.ai hw'; exact fK ag ae hn) ?_
 refine Z.m ax ?_
 refine bI (fun w' hw' => (xX _ (by omega))) ?_
 refine aI (fun w10 aW => ?_)
 replace ah := aW.af ah
 refine Z.l ah ?_
 replace ax := aW.af ax
 refine Z.l ax ?_
 refine au (bG (l := [(0, 1), (1, 1), (2, 1), (3, 1), (4, 1)]) (z := #[Z.u 0, .bool false, .bool false, Z.u 0, Z.u 0]) (cs := (Gs.cv Gs.zc)) (by kernel_rfl) (by rfl)) ?_
 replace ae := ae.ai aW
 replace ag := aW.af ag
 refine aN (I5 ag ae hn (i := i) (j := 0) (x := Gs.zc) hN) (fun v11 nT D11 => ?_)
 obtain ⟨rfl, N11, bJ⟩ := D11
 have aJ := ae
 replace ae := N11
 replace hF := hF.go0 aW
 replace hF := hF.go bJ (fun i h hs => by exact hs)
 clear aJ
 have hk1 : Gs.Kp cs (Gs.sV cs (Gs.qL (Gs.aZ r c) i 0) Gs.zc) := Gs.Kp.fill rfl hk0 (fun y hy => Gs.TQ hiC hob (by have := Gs.adZ hy; omega))
 show lX [] _ _
 exact ⟨_, rfl, _, _, _, rfl, hW.fill _ Gs.AQ, .inl ⟨rfl, hop, Gs.Mk.free hk1 hob⟩, ae, hF⟩
 refine Z.n (#[Z.i 0]) (fun b14 sJ e14 dN _ dm => ?_)
 replace ag := U6.aj (U5.af ag) kC
 have qB : bp ≠ b14 := by have := ak ag; omega
 replace ae := (ae.ai U5).aG U6 jF
 have nV := ae.apart e14
 replace ah := U6.aj (U5.af ah) gU
 have qC : b1 ≠ b14 := by have := ak ah; omega
 replace ax := U6.aj (U5.af ax) nz
 have vU : b2 ≠ b14 := by have := ak ax; omega
 have Qv : b5 ≠ b14 := by have := ak cO; omega
 replace hF := (hF.go0 U5).go1 U6 iG
 have pM : w.heap.size ≤ b14 := by have := hF.size; omega
 refine Z.s dN (fun tX dN _ bU => ?_)
 refine bP (fun g w' => ∃ (D2 : Nat) (c1 : List Gs.Cell) (m : Int), (g 1000000 = mkV D2 undef) ∧ (w.heap.size ≤ D2) ∧ (w'.heap[D2]? = some (.deferred (some []))) ∧ (Gs.lH cs i = true) ∧ (Z.h w' b14 #[Z.i m] 3) ∧ (Z.h w' bp #[Z.i r, Z.i c, .slice A n cp, Z.i cur] 91) ∧ (Own B0 w' 37 5 (.slice A n cp) (rows Gs.cv c1)) ∧ (Gs.Kp cs c1) ∧ (Gs.Pw r c n c1 cur) ∧ (Z.h w' b1 #[Z.p bp] 33) ∧ (Z.h w' b2 #[Z.i i] 3) ∧ (aA (aH (.slice A n cp)) w w')) (fun J1 hJ1 => ?_) (fun gJ1 jK hI => ?_)
 replace ah := bU.aj (dm.af ah) qC
 refine Z.l ah ?_
 replace cO := bU.aj (dm.af cO) Qv
 refine Z.b 3 ((Gs.fv (Gs.mf cs i)).toArray) cO ?_
 replace ae := (ae.ai dm).aG bU nV
 replace ag := bU.aj (dm.af ag) qB
 replace ax := bU.aj (dm.af ax) vU
 replace hF := (hF.go0 dm).go1 bU pM
 have hob : Gs.lH cs i = true := by cases hq : Gs.lH cs i <;> simp_all
 refine aN (zu ag ae hn (f := Gs.mf cs i)) (fun v16 w16 D16 => ?_)
 obtain ⟨b1_34, b2_34, rfl, g1_34, g2_34, iC, iD, bQ⟩ := D16
 have alx : bp ≠ b1_34 := by have := ak ag; omega
 have ahv : ∀ k, aH _ k → k ≠ b1_34 := fun k hk => by have := (Own.ge ae hk).2; omega
 have aly : b1 ≠ b1_34 := by have := ak ah; omega
 have alz : b2 ≠ b1_34 := by have := ak ax; omega
 have alA : b5 ≠ b1_34 := by have := ak cO; omega
 have I7 : b14 ≠ b1_34 := by have := ak dN; omega
 have aou : w.heap.size ≤ b1_34 := by have := hF.size; omega
 have alB : bp ≠ b2_34 := by have := ak ag; omega
 have ahw : ∀ k, aH _ k → k ≠ b2_34 := fun k hk => by have := (Own.ge ae hk).2; omega
 have alC : b1 ≠ b2_34 := by have := ak ah; omega
 have alD : b2 ≠ b2_34 := by have := ak ax; omega
 have alE : b5 ≠ b2_34 := by have := ak cO; omega
 have I8 : b14 ≠ b2_34 := by have := ak dN; omega
 have aov : w.heap.size ≤ b2_34 := by have := hF.size; omega
 refine um (by kernel_rfl) (fun uY l2 D2 Rdy2 Bsy2 Dn2 y2 eD el bg bD lp1 lp2 lp3 sz17 dh hY => ?_)
 have lp2_2 := lp2
 replace ag := bQ.af ag
 have TY : bp ≠ D2 := by have := ak ag; omega
 have iF : bp ≠ l2 := by have := ak ag; omega
 replace ae := ae.ai bQ
 have sG : ∀ k, aH _ k → k ≠ D2 := fun k hk => by have := (Own.ge ae hk).2; omega
 have eQ : ∀ k, aH _ k → k ≠ l2 := fun k hk => by have := (Own.ge ae hk).2; omega
 replace ah := bQ.af ah
 have TZ : b1 ≠ D2 := by have := ak ah; omega
 have iK : b1 ≠ l2 := by have := ak ah; omega
 replace ax := bQ.af ax
 have uq : b2 ≠ D2 := by have := ak ax; omega
 have gJ : b2 ≠ l2 := by have := ak ax; omega
 replace cO := bQ.af cO
 have aow : b5 ≠ D2 := by have := ak cO; omega
 have aox : b5 ≠ l2 := by have := ak cO; omega
 replace dN := bQ.af dN
 have Qw : b14 ≠ D2 := by have := ak dN; omega
 have tZ : b14 ≠ l2 := by have := ak dN; omega
 have alF : b1_34 ≠ D2 := by have := ak iC; omega
 have uP : b1_34 ≠ l2 := by have := ak iC; omega
 have alG : b2_34 ≠ D2 := by have := ak iD; omega
 have uQ : b2_34 ≠ l2 := by have := ak iD; omega
 replace hF := hF.go0 bQ
 have nN : w.heap.size ≤ D2 := by have := hF.size; omega
 have jJ : w.heap.size ≤ l2 := by have := hF.size; omega
 have fD : D2 ≠ l2 := by omega
 replace ae := ae.ai dh
 replace ag := dh.af ag
 replace ah := dh.af ah
 replace ax := dh.af ax
 replace dN := dh.af dN
 replace iC := dh.af iC
 replace iD := dh.af iD
 replace hF := hF.go0 dh
 refine Calls.mono (KA (b1 := b1_34) (b2 := b2_34) (J := (fun (k : Nat) (w' : World) => ∃ (c1 : List Gs.Cell) (m : Int), (Z.h w' b14 #[Z.i m] 3) ∧ (Z.h w' bp #[Z.i r, Z.i c, .slice A n cp, Z.i cur] 91) ∧ (Own B0 w' 37 5 (.slice A n cp) (rows Gs.cv c1)) ∧ (Gs.Kp cs c1) ∧ (Gs.Pw r c n c1 cur) ∧ (Z.h w' b1 #[Z.p bp] 33) ∧ (Z.h w' b2 #[Z.i i] 3) ∧ (Z.h w' b1_34 #[Z.p bp] 33) ∧ (Z.h w' b2_34 ((Gs.fv (Gs.mf cs i)).toArray) 173) ∧ (w'.heap[D2]? = some (.deferred (some []))) ∧ (w'.heap[l2]? = some Rdy2) ∧ (aA (aH (.slice A n cp)) w w'))) (X := (fun _ => False)) (fun _ w' hJ => by obtain ⟨c1, m, dN, ag, ae, hk1, hW1, ah, ax, iC, iD, bg, bD, hF⟩ := hJ; exact ⟨iC, iD, ag, _, hW1.1, ae⟩) (fun _ w' w'' hJ U' => by obtain ⟨c1, m, dN, ag, ae, hk1, hW1, ah, ax, iC, iD, bg, bD, hF⟩ := hJ; exact ⟨c1, m, U'.af dN, U'.af ag, ae.ai U', hk1, hW1, U'.af ah, U'.af ax, U'.af iC, U'.af iD, U'.af bg, U'.af bD, hF.go0 U'⟩) (fun _ _ h _ => h.elim) hN hb ?_ ?_) ?_
 intro k qI xk hx hI
 obtain ⟨c1, m, dN, ag, ae, hk1, hW1, ah, ax, iC, iD, bg, bD, hF⟩ := hI
 have hk := (List.getElem?_eq_some_iff.1 hx).1
 refine hY [Z.i xk] _ _ rfl bD ?_
 simp only [List.getD_cons_zero, List.getD_cons_succ]
 refine xn bD (fun xh bD _ dO => ?_)
 replace ae := ae.aG dO (by assumption)
 replace ax := dO.aj ax gJ
 refine Z.l ax ?_
 refine az (cu _ _ _ _ _) (fun h19 => ?_) (fun h19 => ?_)
 refine bu (bu (aU (aK ?_)))
 replace ah := dO.aj ah iK
 refine Z.l ah ?_
 refine au (bG (l := [(0, 1), (1, 1), (2, 1), (3, 1), (4, 1)]) (z := #[Z.u 0, .bool false, .bool false, Z.u 0, Z.u 0]) (cs := (Gs.cv Gs.zc)) (by kernel_rfl) (by rfl)) ?_
 replace ag := dO.aj ag iF
 refine aN (jv ag ae hW1.1 (i := xk) (x := Gs.zc)) (fun v20 wY D20 => ?_)
 obtain ⟨rfl, N20, dR⟩ := D20
 have aJ := ae
 replace dN := dO.aj dN tZ
 replace dN := dR.get dN (fun h => Own.aS aJ dN (by decide) _ h rfl)
 replace ag := dR.get ag (fun h => Own.aS aJ ag (by decide) _ h rfl)
 replace ae := N20
 replace ah := dR.get ah (fun h => Own.aS aJ ah (by decide) _ h rfl)
 replace ax := dR.get ax (fun h => Own.aS aJ ax (by decide) _ h rfl)
 replace iC := dO.aj iC uP
 replace iC := dR.get iC (fun h => Own.aS aJ iC (by decide) _ h rfl)
 replace iD := dO.aj iD uQ
 replace iD := dR.get iD (fun h => Own.aS aJ iD (by decide) _ h rfl)
 replace bg := dO.aj bg fD
 replace bg := dR.get bg (fun h => Own.lq aJ bg _ h rfl)
 replace hF := hF.go1 dO jJ
 replace bD := dR.get bD (fun h => Own.iZ aJ bD (by assumption) _ h rfl)
 replace hF := hF.go dR (fun i h hs => by exact hs)
 clear aJ
 refine Z.l dN ?_
 refine au (Gj _ _ _ _) ?_
 refine Z.s dN (fun BQ dN _ dV => ?_)
 replace ae := ae.aG dV (by assumption)
 replace bD := dV.aj bD (Ne.symm tZ)
 refine sD bD (fun Hy bD _ gY => ?_)
 replace ag := dV.aj ag qB
 replace ah := dV.aj ah qC
 replace ax := dV.aj ax vU
 replace iC := dV.aj iC (Ne.symm I7)
 replace iD := dV.aj iD (Ne.symm I8)
 replace bg := dV.aj bg (Ne.symm Qw)
 replace hF := hF.go1 dV pM
 replace ae := ae.aG gY (by assumption)
 replace dN := gY.aj dN tZ
 replace ag := gY.aj ag iF
 replace ah := gY.aj ah iK
 replace ax := gY.aj ax gJ
 replace iC := gY.aj iC uP
 replace iD := gY.aj iD uQ
 replace bg := gY.aj bg fD
 replace hF := hF.go1 gY jJ
 exact ⟨_, _, dN, ag, ae, (by exact hk1.set (Gs.row_in hiC hob (by rw [← hn]; exact hx)).2 rfl), (by exact hW1.set _ Gs.AQ), ah, ax, iC, iD, bg, bD, hF⟩
 refine bz ?_
 replace dN := dO.aj dN tZ
 refine Z.l dN ?_
 refine bz ?_
 refine az (gtr _ _ _ _) (fun h23 => ?_) (fun h23 => ?_)
 refine aT (aK ?_)
 replace ah := dO.aj ah iK
 refine Z.l ah ?_
 refine au (bG (l := [(0, 1), (1, 1), (2, 1), (3, 1), (4, 1)]) (z := #[Z.u 0, .bool false, .bool false, Z.u 0, Z.u 0]) (cs := (Gs.cv Gs.zc)) (by kernel_rfl) (by rfl)) ?_
 replace ag := dO.aj ag iF
 refine aN (jv ag ae hW1.1 (i := xk) (x := Gs.zc)) (fun v24 Ql D24 => ?_)
 obtain ⟨rfl, N24, jH⟩ := D24
 have aJ := ae
 replace dN := jH.get dN (fun h => Own.aS aJ dN (by decide) _ h rfl)
 replace ag := jH.get ag (fun h => Own.aS aJ ag (by decide) _ h rfl)
 replace ae := N24
 replace ah := jH.get ah (fun h => Own.aS aJ ah (by decide) _ h rfl)
 replace ax := jH.get ax (fun h => Own.aS aJ ax (by decide) _ h rfl)
 replace iC := dO.aj iC uP
 replace iC := jH.get iC (fun h => Own.aS aJ iC (by decide) _ h rfl)
 replace iD := dO.aj iD uQ
 replace iD := jH.get iD (fun h => Own.aS aJ iD (by decide) _ h rfl)
 replace bg := dO.aj bg fD
 replace bg := jH.get bg (fun h => Own.lq aJ bg _ h rfl)
 replace hF := hF.go1 dO jJ
 replace bD := jH.get bD (fun h => Own.iZ aJ bD (by assumption) _ h rfl)
 replace hF := hF.go jH (fun i h hs => by exact hs)
 clear aJ
 refine Z.l dN ?_
 refine au (Gj _ _ _ _) ?_
 refine Z.s dN (fun Hz dN _ gz => ?_)
 replace ae := ae.aG gz (by assumption)
 replace bD := gz.aj bD (Ne.symm tZ)
 refine sD bD (fun MX bD _ je => ?_)
 replace ag := gz.aj ag qB
 replace ah := gz.aj ah qC
 replace ax := gz.aj ax vU
 replace iC := gz.aj iC (Ne.symm I7)
 replace iD := gz.aj iD (Ne.symm I8)
 replace bg := gz.aj bg (Ne.symm Qw)
 replace hF := hF.go1 gz pM
 replace ae := ae.aG je (by assumption)
 replace dN := je.aj dN tZ
 replace ag := je.aj ag iF
 replace ah := je.aj ah iK
 replace ax := je.aj ax gJ
 replace iC := je.aj iC uP
 replace iD := je.aj iD uQ
 replace bg := je.aj bg fD
 replace hF := hF.go1 je jJ
 exact ⟨_, _, dN, ag, ae, (by exact hk1.set (Gs.row_in hiC hob (by rw [← hn]; exact hx)).2 rfl), (by exact hW1.set _ Gs.AQ), ah, ax, iC, iD, bg, bD, hF⟩
 refine aT (aF ?_)
 refine sD bD (fun IV bD _ gB => ?_)
 replace ag := dO.aj ag iF
 replace ah := dO.aj ah iK
 replace iC := dO.aj iC uP
 replace iD := dO.aj iD uQ
 replace bg := dO.aj bg fD
 replace hF := hF.go1 dO jJ
 replace ae := ae.aG gB (by assumption)
 replace dN := gB.aj dN tZ
 replace ag := gB.aj ag iF
 replace ah := gB.aj ah iK
 replace ax := gB.aj ax gJ
 replace iC := gB.aj iC uP
 replace iD := gB.aj iD uQ
 replace bg := gB.aj bg fD
 replace hF := hF.go1 gB jJ
 exact ⟨_, _, dN, ag, ae, (by exact hk1), (by exact hW1), ah, ax, iC, iD, bg, bD, hF⟩
 exact ⟨cs, 0, dN, ag, ae, hk0, hW, ah, ax, iC, iD, bg, bD, hF⟩
 rintro e wE2 ⟨hv, hI | hI⟩
 obtain ⟨c1, m, dN, ag, ae, hk1, hW1, ah, ax, iC, iD, bg, bD, hF⟩ := hI
 refine ⟨hv, .inl ⟨bD, fun Xh _ jO => ?_⟩⟩
 replace ae := ae.aG jO (by assumption)
 refine hJ1 _ _ ?_
 replace dN := jO.aj dN tZ
 replace ag := jO.aj ag iF
 replace ah := jO.aj ah iK
 replace ax := jO.aj ax gJ
 replace bg := jO.aj bg fD
 replace hF := hF.go1 jO jJ
 exact ⟨_, _, _, (by rfl), nN, bg, hob, dN, ag, ae, hk1, hW1, ah, ax, hF⟩
 exact hI.elim
 replace ae := (ae.ai dm).aG bU nV
 replace ag := bU.aj (dm.af ag) qB
 replace ah := bU.aj (dm.af ah) qC
 replace ax := bU.aj (dm.af ax) vU
 replace hF := (hF.go0 dm).go1 bU pM
 obtain ⟨D2, c1, m, g1000000, nN, bg, hob, dN, ag, ae, hk1, hW1, ah, ax, hF⟩ := hI
 rw [g1000000]
 refine dK (S := aH ((.slice A n cp))) (fun Xd kM => ?_)
 replace dN := kM.af dN
 refine bI (fun w' hw' => by have dN := hw'.get dN (fun h => nV _ h rfl); exact (kT (by kernel_rfl) dN (by rfl))) ?_
 replace ah := kM.af ah
 refine bI (fun w' hw' => by have ah := (Fr.jk hw').af ah; exact (kT (by kernel_rfl) ah (by rfl))) ?_
 replace ax := kM.af ax
 refine bI (fun w' hw' => by have ax := (Fr.jk hw').af ax; exact (kT (by kernel_rfl) ax (by rfl))) ?_
 refine aI (fun w30 sK => ?_)
 refine jo ?_
 replace ae := (ae.ai kM).ai sK
 replace ag := sK.af (kM.af ag)
 refine aN (vT ag ae hW1.1 hN hb hW1.2.1 (i := i)) (fun v31 w31 D31 => ?_)
 obtain ⟨rfl, N31, pG⟩ := D31
 have aJ := ae
 replace bg := sK.af (kM.af bg)
 replace bg := pG.get bg (fun h => Own.lq aJ bg _ h rfl)
 replace ae := N31
 replace hF := (hF.go0 kM).go0 sK
 replace hF := hF.go pG (fun i h hs => by exact hs)
 clear aJ
 refine ⟨pG, ?_⟩
 refine aI (fun w32 lZ => ?_)
 replace bg := lZ.af bg
 refine leave1 bg (fun Xa _ oM => ?_)
 replace cO := bU.aj (dm.af cO) Qv
 replace ae := ae.ai lZ
 replace hF := hF.go0 lZ
 replace ae := ae.aG oM (Own.lq ae (by assumption))
 replace hF := hF.go1 oM nN
 exact ⟨_, rfl, _, _, _, rfl, hW1.mark i, .inl ⟨decide_eq_true (by rw [hk1.Ua]; exact (Gs.Zb hob).1), hop, _, hk1, rfl⟩, ae, hF⟩
 refine au (nP) ?_
 refine aK ?_
 show lX [] _ _
 replace hF := (hF.go0 U2).go0 U3
 replace ae := ae.ai U3
 exact ⟨_, rfl, _, _, _, rfl, hW, .inr ⟨rfl, rfl⟩, ae, hF⟩
theorem Ub {r c cur : Int} {A : Option Addr} {n cp bp B0 : Nat} {cs : List Gs.Cell} {w : World} (ag : Z.h w bp #[Z.i r, Z.i c, .slice A n cp, Z.i cur] 91) (ae : Own B0 w 37 5 (.slice A n cp) (rows Gs.cv cs)) (hW : Gs.Pw r c n cs cur)  :
    oX 89 #[Z.p bp] w fun e w' => ∃ v, e = .returned v ∧ ∃ (q : Int) (c1 : List Gs.Cell) (cur1 : Int), v = Z.i q ∧ Gs.Pw r c n c1 cur1 ∧ ((q = 0 ∧ Gs.jB cs cur = true ∧ Gs.Mk cs c1 cur) ∨ (q ≠ 0 ∧ c1 = cs ∧ cur1 = cur)) ∧ Z.h w' bp #[Z.i r, Z.i c, .slice A n cp, Z.i cur1] 91 ∧ Own B0 w' 37 5 (.slice A n cp) (rows Gs.cv c1) ∧ aA (fun k => aH (.slice A n cp) k ∨ k = bp) w w' := by
 refine F89.calls ?_
 unfold F89
 obtain ⟨hn, hcw, hcu, hp, hN, hb⟩ := id hW; have hrc := hW.rc
 have hF : aA (fun k => aH (.slice A n cp) k ∨ k = bp) w w := Fr.refl _ _ _
 refine aB (dW ag ae hn) (fun w1 U1 => ?_)
 replace ae := ae.ai U1
 replace ag := U1.af ag
 refine aN (Wl ag ae hW (i := cur)) (fun v2 w2 D2 => ?_)
 obtain ⟨k9, q9, c1, rfl, hW1, hm9, N2, U2⟩ := D2
 have aJ := ae
 replace ag := U2.get ag (fun h => Own.aS aJ ag (by decide) _ h rfl)
 replace ae := N2
 replace hF := hF.go0 U1
 replace hF := hF.go U2 (fun i h hs => .inl hs)
 clear aJ
 refine Z.e ?_
 refine Z.e ?_
 refine au (AP _) ?_
 refine jX (fun h3 => ?_) (fun h3 => ?_)
 rcases hm9 with ⟨hq, ho, hm⟩ | ⟨hq, hc⟩ <;> subst hq <;> first | exact ⟨_, rfl, _, _, _, rfl, hW1, .inr ⟨by decide, hc, rfl⟩, ag, ae, hF⟩ | (exfalso; simp_all; done)
 rcases hm9 with ⟨hq, ho, hm⟩ | ⟨hq, hc⟩ <;> subst hq <;> first | exact ⟨_, rfl, _, _, _, rfl, hW1, .inl ⟨rfl, ho, hm⟩, ag, ae, hF⟩ | (exfalso; simp_all; done)
theorem Uc {r c cur : Int} {A : Option Addr} {n cp bp B0 : Nat} {cs : List Gs.Cell} {w : World} (ag : Z.h w bp #[Z.i r, Z.i c, .slice A n cp, Z.i cur] 91) (ae : Own B0 w 37 5 (.slice A n cp) (rows Gs.cv cs)) (hW : Gs.Pw r c n cs cur) {ins : Bool} :
    oX 92 #[Z.p bp, .bool ins] w fun e w' => ∃ v, e = .returned v ∧ ∃ (q : Int) (c1 : List Gs.Cell) (cur1 : Int), v = Z.i q ∧ Gs.Pw r c n c1 cur1 ∧ ((q = 0 ∧ Gs.jB cs cur = true ∧ Gs.Mk cs c1 cur) ∨ (q ≠ 0 ∧ c1 = cs ∧ cur1 = cur)) ∧ Z.h w' bp #[Z.i r, Z.i c, .slice A n cp, Z.i cur1] 91 ∧ Own B0 w' 37 5 (.slice A n cp) (rows Gs.cv c1) ∧ aA (fun k => aH (.slice A n cp) k ∨ k = bp) w w' := by
 refine F92.calls ?_
 unfold F92
 obtain ⟨hn, hcw, hcu, hp, hN, hb⟩ := id hW; have hrc := hW.rc
 have hF : aA (fun k => aH (.slice A n cp) k ∨ k = bp) w w := Fr.refl _ _ _
 refine aB (dW ag ae hn) (fun w1 U1 => ?_)
 replace ae := ae.ai U1
 replace ag := U1.af ag
 refine aN (Cm ag ae hW (x := 28) (ins := ins) (by decide)) (fun v2 w2 D2 => ?_)
 obtain ⟨e11, c1, cur1, rfl, hW1, hm11, M2, N2, U2⟩ := D2
 replace ae := N2
 replace ag := M2
 replace hF := hF.go0 U1
 replace hF := hF.go U2 (fun i h hs => Or.elim (show aH _ _ ∨ _ = _ from hs) (fun hs => .inl hs) (fun hb => by (subst hb; omega)))
 refine az (jQ _ _ _ _ _) (fun h3 => ?_) (fun h3 => ?_)
 refine aK ?_
 rcases hm11 with ⟨hq, ho, hm⟩ | ⟨hq, hc, hu⟩ <;> first | exact ⟨_, rfl, _, _, _, rfl, hW1, .inr ⟨hq, hc, hu⟩, ag, ae, hF⟩ | (exfalso; simp_all; done)
 refine aF ?_
 have hn1 := hW1.1
 refine aN (qZ ag ae hW1.1 (i := cur)) (fun v5 w5 D5 => ?_)
 obtain ⟨rfl, N5, U5⟩ := D5
 replace ae := ae.aG U5 (Own.aS ae (by assumption) (by decide))
 replace ag := N5
 replace hF := hF.go U5 (fun i _ h => .inr h)
 rw [if_pos (by omega)] at ag
 refine aN (Ew ag ae (hW1.at hcu)) (fun v6 w6 D6 => ?_)
 obtain ⟨cur2, rfl, hW2, N6, U6⟩ := D6
 replace ae := ae.aG U6 (Own.aS ae (by assumption) (by decide))
 replace ag := N6
 replace hF := hF.go U6 (fun i _ h => .inr h)
 rcases hm11 with ⟨hq, ho, hm⟩ | ⟨hq, hc, hu⟩ <;> first | exact ⟨_, rfl, _, _, _, rfl, hW2, .inl ⟨rfl, ho, hm⟩, ag, ae, hF⟩ | (exfalso; simp_all; done)
theorem RG {r c cur : Int} {A : Option Addr} {n cp bp B0 : Nat} {cs : List Gs.Cell} {w : World} (ag : Z.h w bp #[Z.i r, Z.i c, .slice A n cp, Z.i cur] 91) (ae : Own B0 w 37 5 (.slice A n cp) (rows Gs.cv cs)) (hW : Gs.Pw r c n cs cur) {ins : Bool} :
    oX 93 #[Z.p bp, .bool ins] w fun e w' => ∃ v, e = .returned v ∧ ∃ (q : Int) (c1 : List Gs.Cell) (cur1 : Int), v = Z.i q ∧ Gs.Pw r c n c1 cur1 ∧ ((q = 0 ∧ Gs.jB cs cur = true ∧ Gs.Mk cs c1 cur) ∨ (q ≠ 0 ∧ c1 = cs ∧ cur1 = cur)) ∧ Z.h w' bp #[Z.i r, Z.i c, .slice A n cp, Z.i cur1] 91 ∧ Own B0 w' 37 5 (.slice A n cp) (rows Gs.cv c1) ∧ aA (fun k => aH (.slice A n cp) k ∨ k = bp) w w' := by
 refine F93.calls ?_
 unfold F93
 obtain ⟨hn, hcw, hcu, hp, hN, hb⟩ := id hW; have hrc := hW.rc
 have hF : aA (fun k => aH (.slice A n cp) k ∨ k = bp) w w := Fr.refl _ _ _
 refine aN (Cm ag ae hW (x := 30) (ins := ins) (by decide)) (fun v1 w1 D1 => ?_)
 obtain ⟨e7, c1, cur1, rfl, hW1, hm7, M1, N1, U1⟩ := D1
 replace ae := N1
 replace ag := M1
 replace hF := hF.go U1 (fun i h hs => Or.elim (show aH _ _ ∨ _ = _ from hs) (fun hs => .inl hs) (fun hb => by (subst hb; omega)))
 exact ⟨_, rfl, _, _, _, rfl, hW1, hm7, ag, ae, hF⟩
theorem Wn {r c cur : Int} {A : Option Addr} {n cp bp B0 : Nat} {cs : List Gs.Cell} {w : World} (ag : Z.h w bp #[Z.i r, Z.i c, .slice A n cp, Z.i cur] 91) (ae : Own B0 w 37 5 (.slice A n cp) (rows Gs.cv cs)) (hW : Gs.Pw r c n cs cur)  :
    oX 90 #[Z.p bp] w fun e w' => ∃ v, e = .returned v ∧ ∃ (q : Int) (cs : List Gs.Cell) (cur : Int), v = Z.i q ∧ Gs.Pw r c n cs cur ∧ Z.h w' bp #[Z.i r, Z.i c, .slice A n cp, Z.i cur] 91 ∧ Own B0 w' 37 5 (.slice A n cp) (rows Gs.cv cs) ∧ aA (fun k => aH (.slice A n cp) k ∨ k = bp) w w' := by
 refine Xk.calls ?_
 unfold Xk
 obtain ⟨hn, hcw, hcu, hp, hN, hb⟩ := id hW; have hrc := hW.rc
 have wJ := ak ag
 have l7 := Own.lt ae
 have hF : aA (fun k => aH (.slice A n cp) k ∨ k = bp) w w := Fr.refl _ _ _
 refine Z.x _ (fun b1 w1 e1 ah _ U1 => ?_)
 have kD : bp ≠ b1 := by have := ak ag; omega
 have ik := ae.apart e1
 have bZ : w.heap.size ≤ b1 := by have := hF.size; omega
 refine bP (fun g w' => ∃ (cs : List Gs.Cell) (m : Int), (g 3 = Z.i m) ∧ (Z.h w' bp #[Z.i r, Z.i c, .slice A n cp, Z.i cur] 91) ∧ (Own B0 w' 37 5 (.slice A n cp) (rows Gs.cv cs)) ∧ (Gs.Pw r c n cs cur) ∧ (Z.h w' b1 #[Z.p bp] 33) ∧ (aA (fun k => aH (.slice A n cp) k ∨ k = bp) w w')) (fun J1 hJ1 => ?_) (fun gJ1 jK hI => ?_)
 refine Z.l ah ?_
 replace ae := ae.ai U1
 replace ag := U1.af ag
 refine aB (fK ag ae hn) (fun w2 U2 => ?_)
 refine eF (fun g w' => ∃ (k : Nat) (cs : List Gs.Cell) (m : Int), (g 9 = Z.i (k : Int)) ∧ (k ≤ n) ∧ (g 3 = Z.i m) ∧ (Z.h w' bp #[Z.i r, Z.i c, .slice A n cp, Z.i cur] 91) ∧ (Own B0 w' 37 5 (.slice A n cp) (rows Gs.cv cs)) ∧ (Gs.Pw r c n cs cur) ∧ (Z.h w' b1 #[Z.p bp] 33) ∧ (aA (fun k => aH (.slice A n cp) k ∨ k = bp) w w')) (fun g w' => n - (RowKit.intOf (g 9)).toNat) ?_ (fun g2 qI hI => ?_)
 replace hF := (hF.go0 U1).go0 U2
 replace ae := ae.ai U2
 replace ag := U2.af ag
 replace ah := U2.af ah
 exact ⟨0, cs, 0, (by rfl), Nat.zero_le _, (by rfl), ag, ae, hW, ah, hF⟩
 replace hF := (hF.go0 U1).go0 U2
 replace ae := ae.ai U2
 replace ag := U2.af ag
 replace ah := U2.af ah
 obtain ⟨k, cs, m, g9, hk, g3, ag, ae, hW, ah, hF⟩ := hI
 rw [g9]
 rw [g3]
 obtain ⟨hn, hcw, hcu, hp, hN, hb⟩ := id hW
 refine az (lss _ _ _ _) (fun h3 => ?_) (fun h3 => ?_)
 refine aK ?_
 refine bP (fun g w' => ∃ (cs : List Gs.Cell) (m : Int), (g 3 = Z.i m) ∧ (Z.h w' bp #[Z.i r, Z.i c, .slice A n cp, Z.i cur] 91) ∧ (Own B0 w' 37 5 (.slice A n cp) (rows Gs.cv cs)) ∧ (Gs.Pw r c n cs cur) ∧ (Z.h w' b1 #[Z.p bp] 33) ∧ (aA (fun k => aH (.slice A n cp) k ∨ k = bp) w w')) (fun J3 hJ3 => ?_) (fun gJ3 KN hI => ?_)
 refine Z.l ah ?_
 refine dU (mV ag ae hn hN hb hcw (i := (k : Int))) (fun w4 U4 h4 => ?_) (fun w4 U4 h4 => ?_)
 refine aK ?_
 replace ah := U4.af ah
 refine Z.l ah ?_
 refine au (bG (l := [(0, 1), (1, 1), (2, 1), (3, 1), (4, 1)]) (z := #[Z.u 0, .bool false, .bool false, Z.u 0, Z.u 0]) (cs := (Gs.cv Gs.zc)) (by kernel_rfl) (by rfl)) ?_
 replace ae := ae.ai U4
 replace ag := U4.af ag
 refine aN (jv ag ae hn (i := (k : Int)) (x := Gs.zc)) (fun v5 w5 D5 => ?_)
 obtain ⟨rfl, N5, U5⟩ := D5
 have aJ := ae
 replace ag := U5.get ag (fun h => Own.aS aJ ag (by decide) _ h rfl)
 replace ae := N5
 replace ah := U5.get ah (fun h => ik _ h rfl)
 replace hF := hF.go0 U4
 replace hF := hF.go U5 (fun i h hs => .inl hs)
 clear aJ
 refine au (Gj _ _ _ _) ?_
 refine hJ3 _ _ ?_
 exact ⟨_, _, (by rfl), ag, ae, (by exact hW.set _ Gs.AQ), ah, hF⟩
 refine aF ?_
 refine hJ3 _ _ ?_
 replace ae := ae.ai U4
 replace ag := U4.af ag
 replace ah := U4.af ah
 replace hF := hF.go0 U4
 exact ⟨_, _, (by exact g3), ag, ae, (by exact hW), ah, hF⟩
 obtain ⟨cs, m, g3, ag, ae, hW, ah, hF⟩ := hI
 obtain ⟨hn, hcw, hcu, hp, hN, hb⟩ := id hW
 refine au (dL _ (by omega)) ?_
 exact ⟨⟨k + 1, _, _, (by rfl), by omega, (by exact g3), ag, ae, hW, ah, hF⟩, cnt_lt (by rfl) rfl (by omega)⟩
 refine aF ?_
 refine hJ1 _ _ ?_
 exact ⟨_, _, (by exact g3), ag, ae, hW, ah, hF⟩
 replace ae := ae.ai U1
 replace ag := U1.af ag
 replace hF := hF.go0 U1
 obtain ⟨cs, m, g3, ag, ae, hW, ah, hF⟩ := hI
 rw [g3]
 obtain ⟨hn, hcw, hcu, hp, hN, hb⟩ := id hW
 refine bP (fun g w' => ∃ (D5 : Nat) (cs : List Gs.Cell), (g 1000000 = mkV D5 undef) ∧ (w.heap.size ≤ D5) ∧ (w'.heap[D5]? = some (.deferred (some []))) ∧ (Z.h w' bp #[Z.i r, Z.i c, .slice A n cp, Z.i cur] 91) ∧ (Own B0 w' 37 5 (.slice A n cp) (rows Gs.cv cs)) ∧ (Gs.Pw r c n cs cur) ∧ (Z.h w' b1 #[Z.p bp] 33) ∧ (aA (fun k => aH (.slice A n cp) k ∨ k = bp) w w')) (fun J4 hJ4 => ?_) (fun gJ4 wJ4 hI => ?_)
 refine Z.l ah ?_
 refine aN (xq ag ae hn) (fun v6 w6 D6 => ?_)
 obtain ⟨b1_23, rfl, g1_23, eu, U6⟩ := D6
 have Wp : bp ≠ b1_23 := by have := ak ag; omega
 have zx : ∀ k, aH _ k → k ≠ b1_23 := fun k hk => by have := (Own.ge ae hk).2; omega
 have Wq : b1 ≠ b1_23 := by have := ak ah; omega
 have ad1 : w.heap.size ≤ b1_23 := by have := hF.size; omega
 refine um (by kernel_rfl) (fun w7 l5 D5 Rdy5 Bsy5 Dn5 y5 eD el dI dX lp1 lp2 lp3 sz7 U7 hY => ?_)
 have lp2_5 := lp2
 replace ag := U6.af ag
 have TU : bp ≠ D5 := by have := ak ag; omega
 have lT : bp ≠ l5 := by have := ak ag; omega
 replace ae := ae.ai U6
 have zO : ∀ k, aH _ k → k ≠ D5 := fun k hk => by have := (Own.ge ae hk).2; omega
 have ja : ∀ k, aH _ k → k ≠ l5 := fun k hk => by have := (Own.ge ae hk).2; omega
 replace ah := U6.af ah
 have TS : b1 ≠ D5 := by have := ak ah; omega
 have mF : b1 ≠ l5 := by have := ak ah; omega
 have Ws : b1_23 ≠ D5 := by have := ak eu; omega
 have pq : b1_23 ≠ l5 := by have := ak eu; omega
 replace hF := hF.go0 U6
 have yH : w.heap.size ≤ D5 := by have := hF.size; omega
 have ql : w.heap.size ≤ l5 := by have := hF.size; omega
 have lF : D5 ≠ l5 := by omega
 replace ae := ae.ai U7
 replace ag := U7.af ag
 replace ah := U7.af ah
 replace eu := U7.af eu
 replace hF := hF.go0 U7
 refine Calls.mono (uF (b1 := b1_23) (csF := fun k => Gs.oz cs ((Gs.bW cs).take k)) (J := (fun (k : Nat) (w' : World) => (Z.h w' bp #[Z.i r, Z.i c, .slice A n cp, Z.i cur] 91) ∧ (Own B0 w' 37 5 (.slice A n cp) (rows Gs.cv (Gs.oz cs ((Gs.bW cs).take k)))) ∧ (Z.h w' b1_23 #[Z.p bp] 33) ∧ (Z.h w' b1 #[Z.p bp] 33) ∧ (w'.heap[D5]? = some (.deferred (some []))) ∧ (w'.heap[l5]? = some Rdy5) ∧ (aA (fun k => aH (.slice A n cp) k ∨ k = bp) w w'))) (X := (fun _ => False)) (fun _ w' hJ => by obtain ⟨ag, ae, eu, ah, dI, dX, hF⟩ := hJ; exact ⟨eu, ag, ae⟩) (fun _ w' w'' hJ U' => by obtain ⟨ag, ae, eu, ah, dI, dX, hF⟩ := hJ; exact ⟨U'.af ag, ae.ai U', U'.af eu, U'.af ah, U'.af dI, U'.af dX, hF.go0 U'⟩) (fun _ _ h _ => h.elim) (fun _ => hn.trans (Gs.uS cs _)) (fun _ => Gs.Bo hcw _) (fun _ _ => by rw [Gs.Nw, Gs.Nw]) hN hb ?_ ?_) ?_
 intro k wl5 xk hx hI
 obtain ⟨ag, ae, eu, ah, dI, dX, hF⟩ := hI
 have hx : (Gs.bW cs)[k]? = some xk := hx
 have hk := (List.getElem?_eq_some_iff.1 hx).1
 have hxm := Gs.qm.1 (List.mem_of_getElem? hx)
 have hxn := hxm.1
 have hgw := Gs.tu (Gs.Bo hcw ((Gs.bW cs).take k)) (xk : Int)
 have hol := Gs.uS cs ((Gs.bW cs).take k)
 refine hY [.agg (Gs.fv (Gs.kP (Gs.oz cs ((Gs.bW cs).take k)) xk)).toArray] _ _ rfl dX ?_
 simp only [List.getD_cons_zero, List.getD_cons_succ]
 refine Z.n ((Gs.fv Gs.zf).toArray) (fun b8 w8 e8 mG _ U8 => ?_)
 have CB : bp ≠ b8 := by have := ak ag; omega
 have xu := ae.apart e8
 have xw : b1_23 ≠ b8 := by have := ak eu; omega
 have CE : b1 ≠ b8 := by have := ak ah; omega
 have CG : D5 ≠ b8 := by have := ak dI; omega
 have CJ : l5 ≠ b8 := by have := ak dX; omega
 have Gl : w.heap.size ≤ b8 := by have := hF.size; omega
 refine Z.t 3 ((Gs.fv (Gs.kP (Gs.oz cs ((Gs.bW cs).take k)) xk)).toArray) (by (simp [Value.cells, Value.oneCell', Gs.cv, Gs.fv, Gs.ie]; done)) mG (fun w9 mG _ U9 => ?_)
 replace dX := U9.aj (U8.af dX) CJ
 refine xn dX (fun w10 dX _ aW => ?_)
 refine Z.f 2 ?_
 replace mG := aW.aj mG (Ne.symm CJ)
 refine Z.l mG ?_
 refine dU (ny (Gs.Ud (Gs.Bo hcw _) xk)) (fun nT bJ h11 => ?_) (fun nT bJ h11 => ?_)
 simp only [Z.d, Z.c] at h11
 refine aK ?_
 replace dX := bJ.af dX
 refine sD dX (fun w12 dX _ df => ?_)
 replace ae := ((((ae.ai U8).aG U9 xu).aG aW ja).ai bJ).aG df ja
 replace ag := df.aj (bJ.af (aW.aj (U9.aj (U8.af ag) CB) lT)) lT
 replace eu := df.aj (bJ.af (aW.aj (U9.aj (U8.af eu) xw) pq)) pq
 replace ah := df.aj (bJ.af (aW.aj (U9.aj (U8.af ah) CE) mF)) mF
 replace dI := df.aj (bJ.af (aW.aj (U9.aj (U8.af dI) CG) lF)) lF
 replace hF := ((((hF.go0 U8).go1 U9 Gl).go1 aW ql).go0 bJ).go1 df ql
 exact ⟨ag, (by rw [Gs.Gm hx]; have hpr := Gs.Gn hx; unfold Gs.qQ; (rw [if_pos (decide_eq_true (by omega))]; exact ae)), eu, ah, dI, dX, hF⟩
 simp only [Z.d, Z.c] at h11
 refine aF ?_
 replace ah := bJ.af (aW.aj (U9.aj (U8.af ah) CE) mF)
 refine Z.l ah ?_
 refine Z.f 0 ?_
 replace mG := bJ.af mG
 refine Z.l mG ?_
 replace ae := (((ae.ai U8).aG U9 xu).aG aW ja).ai bJ
 replace ag := bJ.af (aW.aj (U9.aj (U8.af ag) CB) lT)
 refine aB (iw ag ae (hn.trans hol) (i := (xk : Int))) (fun uX dE => ?_)
 refine Z.n ((Gs.cv Gs.zc).toArray) (fun b14 sJ e14 dN _ dm => ?_)
 replace ag := dE.af ag
 have qB : bp ≠ b14 := by have := ak ag; omega
 replace ae := ae.ai dE
 have nV := ae.apart e14
 replace eu := dE.af (bJ.af (aW.aj (U9.aj (U8.af eu) xw) pq))
 have vV : b1_23 ≠ b14 := by have := ak eu; omega
 replace ah := dE.af ah
 have qC : b1 ≠ b14 := by have := ak ah; omega
 replace dI := dE.af (bJ.af (aW.aj (U9.aj (U8.af dI) CG) lF))
 have Ag : D5 ≠ b14 := by have := ak dI; omega
 replace dX := dE.af (bJ.af dX)
 have Ah : l5 ≠ b14 := by have := ak dX; omega
 replace mG := dE.af mG
 have Ai : b8 ≠ b14 := by have := ak mG; omega
 replace hF := ((((hF.go0 U8).go1 U9 Gl).go1 aW ql).go0 bJ).go0 dE
 have pM : w.heap.size ≤ b14 := by have := hF.size; omega
 refine Z.t 5 ((Gs.cv (Gs.bK (Gs.oz cs ((Gs.bW cs).take k)) xk)).toArray) (by (simp [Value.cells, Value.oneCell', Gs.cv, Gs.fv, Gs.ie]; done)) dN (fun tX dN _ bU => ?_)
 refine Z.f 0 ?_
 refine Z.l dN ?_
 refine aB (yI hgw) (fun w16 bQ => ?_)
 refine Z.f 0 ?_
 replace dN := bQ.af dN
 refine Z.s dN (fun uY dN _ dh => ?_)
 replace ah := dh.aj (bQ.af (bU.aj (dm.af ah) qC)) qC
 refine Z.l ah ?_
 refine Z.f 0 ?_
 replace mG := dh.aj (bQ.af (bU.aj (dm.af mG) Ai)) Ai
 refine Z.l mG ?_
 refine Z.b 5 _ dN ?_
 replace ae := (((ae.ai dm).aG bU nV).ai bQ).aG dh nV
 replace ag := dh.aj (bQ.af (bU.aj (dm.af ag) qB)) qB
 refine aN (jv ag ae (hn.trans hol) (i := (xk : Int)) (x := Gs.zy false (Gs.bK (Gs.oz cs ((Gs.bW cs).take k)) xk))) (fun v18 xh D18 => ?_)
 obtain ⟨rfl, N18, dO⟩ := D18
 have aJ := ae
 replace ag := dO.get ag (fun h => Own.aS aJ ag (by decide) _ h rfl)
 replace ae := N18
 replace eu := dh.aj (bQ.af (bU.aj (dm.af eu) vV)) vV
 replace eu := dO.get eu (fun h => zx _ h rfl)
 replace ah := dO.get ah (fun h => ik _ h rfl)
 replace dI := dh.aj (bQ.af (bU.aj (dm.af dI) Ag)) Ag
 replace dI := dO.get dI (fun h => zO _ h rfl)
 replace dX := dh.aj (bQ.af (bU.aj (dm.af dX) Ah)) Ah
 replace dX := dO.get dX (fun h => ja _ h rfl)
 replace hF := (((hF.go0 dm).go1 bU pM).go0 bQ).go1 dh pM
 replace hF := hF.go dO (fun i h hs => .inl hs)
 clear aJ
 refine sD dX (fun Aa dX _ eX => ?_)
 replace ae := ae.aG eX ja
 replace ag := eX.aj ag lT
 replace eu := eX.aj eu pq
 replace ah := eX.aj ah mF
 replace dI := eX.aj dI lF
 replace hF := hF.go1 eX ql
 exact ⟨ag, (by rw [Gs.Gm hx]; have hpr := Gs.Gn hx; unfold Gs.qQ; (rw [if_neg (fun hq => by have := of_decide_eq_true hq; omega)]; exact ae)), eu, ah, dI, dX, hF⟩
 exact ⟨ag, ae, eu, ah, dI, dX, hF⟩
 rintro e wE5 ⟨hv, hI | hI⟩
 obtain ⟨ag, ae, eu, ah, dI, dX, hF⟩ := hI
 refine ⟨hv, .inl ⟨dX, fun wY _ dR => ?_⟩⟩
 refine hJ4 _ _ ?_
 replace ae := ae.aG dR ja
 replace ag := dR.aj ag lT
 replace ah := dR.aj ah mF
 replace dI := dR.aj dI lF
 replace hF := hF.go1 dR ql
 exact ⟨_, _, (by rfl), yH, dI, ag, ae, (hW.opn _), ah, hF⟩
 exact hI.elim
 obtain ⟨D5, cs, g1000000, yH, dI, ag, ae, hW, ah, hF⟩ := hI
 rw [g1000000]
 obtain ⟨hn, hcw, hcu, hp, hN, hb⟩ := id hW
 refine dK (S := no) (fun BQ dV => ?_)
 replace ah := dV.af ah
 refine Z.m ah ?_
 refine Z.m ah ?_
 replace ae := ae.ai dV
 replace ag := dV.af ag
 refine fM (fun w' hw' => by have ag := hw'.af ag; have ae := ae.ai hw'; exact Ce ag ae hn hN hb hcw) ?_
 have hhb := Gs.JR (cs := cs) (by omega)
 refine aI (fun ES jg => ?_)
 replace ae := ae.ai jg
 replace ag := jg.af ag
 refine aN (qZ ag ae hn (i := Gs.sU cs)) (fun v24 Ql D24 => ?_)
 obtain ⟨rfl, N24, jH⟩ := D24
 replace dI := jg.af (dV.af dI)
 replace hF := (hF.go0 dV).go0 jg
 replace ae := ae.aG jH (Own.aS ae (by assumption) (by decide))
 replace dI := jH.aj dI (by omega)
 replace ag := N24
 replace hF := hF.go jH (fun i _ h => .inr h)
 rw [if_pos (by omega)] at ag
 refine aI (fun Hz gz => ?_)
 replace dI := gz.af dI
 refine leave1 dI (fun IV _ gB => ?_)
 replace ae := ae.ai gz
 replace ag := gz.af ag
 replace hF := hF.go0 gz
 replace ae := ae.aG gB (Own.lq ae (by assumption))
 replace ag := gB.aj ag (by omega)
 replace hF := hF.go1 gB yH
 exact ⟨_, rfl, _, _, _, rfl, hW.at (by omega), ag, ae, hF⟩
end Go.Proofs.YtjdoakbadehicaaGreatDoor
end
section
namespace Gs
open Go Go.Sh
structure Pr where
 t : Int
 v : Int
deriving DecidableEq
def pe (x : Pr) : List Value := [.int .u8 x.t, .int .u8 x.v]
theorem BD : Enc pe 2 := ⟨fun _ => rfl, fun a u hu => by
 simp only [pe, List.mem_cons, List.mem_nil_iff, or_false] at hu
 rcases hu with rfl | rfl <;> rfl, by decide⟩
def zpr : Pr := ⟨0, 0⟩
def XK (x : Pr) : Prop := (0 ≤ x.t ∧ x.t ≤ 255) ∧ (0 ≤ x.v ∧ x.v ≤ 255)
structure iW where
 k : Int
 a : Int
 b : Int
 ge : Bool
 pA : Option Addr
 pc : Nat
 ps : List Pr
 dA : Option Addr
 dc : Nat
 ds : List Int
def oe (x : iW) : List Value := [.int .u8 x.k, .int .i64 x.a, .int .u8 x.b, .bool x.ge, .slice x.pA x.ps.length x.pc, .slice x.dA x.ds.length x.dc]
theorem Bl : Enc oe 6 := ⟨fun _ => rfl, fun a u hu => by
 simp only [oe, List.mem_cons, List.mem_nil_iff, or_false] at hu
 rcases hu with rfl | rfl | rfl | rfl | rfl | rfl <;> rfl, by decide⟩
def zi (x : iW) : Prop := (0 ≤ x.k ∧ x.k ≤ 255) ∧ (0 ≤ x.b ∧ x.b ≤ 255) ∧ Bs x.ds ∧ ∀ p ∈ x.ps, XK p
def Cb (l : List iW) : Prop := ∀ x ∈ l, zi x
theorem Cb.get {l : List iW} (h : Cb l) {k : Nat} {x : iW} (hx : l[k]? = some x) : zi x := h x (List.mem_of_getElem? hx)
theorem Cb.snoc {l : List iW} (h : Cb l) {x : iW} (hx : zi x) : Cb (l ++ [x]) := fun y hy => by
 rcases List.mem_append.1 hy with hy | hy
 ·exact h y hy
 ·rw [List.mem_singleton.1 hy]; exact hx
def ku (w : World) (l : List iW) : Prop := ∀ x ∈ l, Rd w x.pA (rows pe x.ps) ∧ Rd w x.dA (vals .u8 x.ds)
def jI (l : List iW) (k : Nat) : Prop := ∃ x ∈ l, (x.ps ≠ [] ∧ fC x.pA k) ∨ (x.ds ≠ [] ∧ fC x.dA k)
def XY (l : List iW) (B : Nat) : Prop := l = [] ∨ ∀ k, jI l k → k < B
theorem XY.ne {l : List iW} {B : Nat} (h : XY l B) {b : Nat} (hb : B ≤ b) : l = [] ∨ ∀ k, jI l k → k ≠ b := h.imp_right fun h k hk => by have := h k hk; omega
theorem XY.mono {l : List iW} {B B' : Nat} (h : XY l B) (hb : B ≤ B') : XY l B' := h.imp_right fun h k hk => by have := h k hk; omega
theorem amy {cs : List Pr} (h : cs ≠ []) : rows pe cs ≠ [] := fun e => by
 have := congrArg List.length e
 rw [iE BD] at this
 cases cs
 ·exact h rfl
 ·simp at this
theorem ku.lt {w : World} {l : List iW} (h : ku w l) : XY l w.heap.size := by
 refine .inr fun k ⟨x, hx, hk⟩ => ?_
 rcases hk with ⟨hne, hk⟩ | ⟨hne, hk⟩
 ·rcases (h x hx).1.lt with h2 | h2
  ·exact absurd h2 (amy hne)
  ·exact h2 k hk
 ·rcases (h x hx).2.lt with h2 | h2
  ·exact absurd (List.map_eq_nil_iff.1 h2) hne
  ·exact h2 k hk
theorem ku.dY {S : Nat → Prop} {w w' : World} {l : List iW} (h : ku w l) (u : aA S w w') (hs : l = [] ∨ ∀ k, jI l k → ¬ S k) : ku w' l := by
 intro x hx
 rcases hs with rfl | hs
 ·cases hx
 ·constructor
  ·refine (h x hx).1.dY u ?_
   by_cases hc : x.ps = []
   ·left; rw [hc]; rfl
   ·right; exact fun k hk => hs k ⟨x, hx, .inl ⟨hc, hk⟩⟩
  ·refine (h x hx).2.dY u ?_
   by_cases hc : x.ds = []
   ·left; rw [hc]; rfl
   ·right; exact fun k hk => hs k ⟨x, hx, .inr ⟨hc, hk⟩⟩
theorem ku.ai {w w' : World} {l : List iW} (h : ku w l) (u : aA no w w') : ku w' l := h.dY u (.inr fun _ _ => id)
theorem ku.aG {w w' : World} {l : List iW} {b : Nat} (h : ku w l) (u : aA (· = b) w w') (hs : l = [] ∨ ∀ k, jI l k → k ≠ b) : ku w' l := h.dY u hs
theorem ku.apart {w : World} {l : List iW} (h : ku w l) {b : Nat} (hb : b = w.heap.size) : l = [] ∨ ∀ k, jI l k → k ≠ b := h.lt.ne (by omega)
theorem ku.get {w : World} {l : List iW} (h : ku w l) {k : Nat} {x : iW} (hx : l[k]? = some x) : ku w [x] := fun y hy => by
 cases List.mem_singleton.1 hy; exact h x (List.mem_of_getElem? hx)
theorem ku.nil (w : World) : ku w [] := fun x hx => by cases hx
theorem ku.one {w : World} {x : iW} (h : Rd w x.pA (rows pe x.ps)) (k : Rd w x.dA (vals .u8 x.ds)) : ku w [x] := fun y hy => by
 cases List.mem_singleton.1 hy; exact ⟨h, k⟩
theorem ku.p {w : World} {x : iW} (h : ku w [x]) : Rd w x.pA (rows pe x.ps) := (h x (List.mem_cons_self ..)).1
theorem ku.d {w : World} {x : iW} (h : ku w [x]) : Rd w x.dA (vals .u8 x.ds) := (h x (List.mem_cons_self ..)).2
theorem ku.snoc {w : World} {l : List iW} {x : iW} (h : ku w l) (hx : ku w [x]) : ku w (l ++ [x]) := fun y hy => by
 rcases List.mem_append.1 hy with hy | hy
 ·exact h y hy
 ·exact hx y hy
theorem Vq {l : List iW} {x : iW} {k : Nat} (h : jI (l ++ [x]) k) : jI l k ∨ jI [x] k := by
 obtain ⟨y, hy, h⟩ := h
 rcases List.mem_append.1 hy with hy | hy
 ·exact .inl ⟨y, hy, h⟩
 ·exact .inr ⟨y, hy, h⟩
theorem aiu {l : List iW} {x : iW} {i k : Nat} (hx : l[i]? = some x) (h : jI [x] k) : jI l k := by
 obtain ⟨y, hy, h⟩ := h
 cases List.mem_singleton.1 hy
 exact ⟨x, List.mem_of_getElem? hx, h⟩
theorem akM {S' : World} {v v' : Value} {l : List iW} (old : l = [] ∨ ∀ k, jI l k → ¬ aH v k) (lt : ku S' l) (hA : ∀ k, aH v' k → aH v k ∨ S'.heap.size ≤ k) : l = [] ∨ ∀ k, jI l k → ¬ aH v' k := by
 rcases old with h | h
 ·exact .inl h
 ·rcases lt.lt with h2 | h2
  ·exact .inl h2
  ·refine .inr fun k hk ho => ?_
   rcases hA k ho with h3 | h3
   ·exact h k hk h3
   ·have := h2 k hk; omega
end Gs
namespace Go.Sh
open Go Gs
def nU (T B : Nat) (w : World) (br : Nat) (bs : List Int) (at' : Nat) : Prop :=
 ∃ A c, w.heap[br]? = some (.cells #[.slice A bs.length c, .int .i64 at'] T (0, 0)) ∧ Rd w A (vals .u8 bs) ∧ bs.length ≤ c ∧ Bs bs ∧ br < B ∧ at' ≤ bs.length ∧ (bs = [] ∨ ∀ k, fC A k → k < B ∧ k ≠ br)
theorem nU.lt {T B : Nat} {w : World} {br at' : Nat} {bs : List Int} (h : nU T B w br bs at') : br < B := by obtain ⟨A, c, _, _, _, _, h, _⟩ := h; exact h
theorem nU.bs {T B : Nat} {w : World} {br at' : Nat} {bs : List Int} (h : nU T B w br bs at') : Bs bs := by obtain ⟨A, c, _, _, _, h, _⟩ := h; exact h
theorem nU.le {T B : Nat} {w : World} {br at' : Nat} {bs : List Int} (h : nU T B w br bs at') : at' ≤ bs.length := by obtain ⟨A, c, _, _, _, _, _, h, _⟩ := h; exact h
theorem nU.upd {T B : Nat} {w : World} {br at' : Nat} {bs : List Int} {S : Nat → Prop} {w' : World} (h : nU T B w br bs at') (u : aA S w w') (hS : ∀ k, k < B → ¬ S k) : nU T B w' br bs at' := by
 obtain ⟨A, c, h1, h2, h3, h4, h5, h6, h7⟩ := h
 refine ⟨A, c, u.get h1 (hS _ h5), h2.dY u ?_, h3, h4, h5, h6, h7⟩
 exact h7.imp (fun e => by rw [e]; rfl) (fun h k hk => hS k (h k hk).1)
theorem nU.ai {T B : Nat} {w : World} {br at' : Nat} {bs : List Int} {w' : World} (h : nU T B w br bs at') (u : aA no w w') : nU T B w' br bs at' := h.upd u (fun _ _ h => h)
end Go.Sh
namespace Go.Sh
open Go Gs
def prA (w : World) (br : Nat) : Nat := match w.heap[br]? with | some (.cells cs _ _) => (match cs.toList with | _ :: Value.int _ x :: _ => x.toNat | _ => 0) | _ => 0
theorem Ol {w : World} {br T at' : Nat} {v : Value} {f : Nat × Nat} (h : w.heap[br]? = some (.cells #[v, .int .i64 (at' : Int)] T f)) : prA w br = at' := by
 unfold prA; rw [h]; simp
end Go.Sh
namespace Gs
open Go Go.Sh
def cZ (k a b : Int) (ge : Bool) : iW := ⟨k, a, b, ge, none, 0, [], none, 0, []⟩
theorem Jw {k a b : Int} {ge : Bool} (hk : 0 ≤ k ∧ k ≤ 255) (hb : 0 ≤ b ∧ b ≤ 255) : zi (cZ k a b ge) := ⟨hk, hb, (by intro x h; cases h), (by intro x h; cases h)⟩
def L6 (k : Int) (A : Option Addr) (c : Nat) (l : List Pr) : iW := ⟨k, 0, 0, false, A, c, l, none, 0, []⟩
theorem acY {k : Int} {A : Option Addr} {c : Nat} {l : List Pr} (hk : 0 ≤ k ∧ k ≤ 255) (h : ∀ p ∈ l, XK p) : zi (L6 k A c l) := ⟨hk, (by show 0 ≤ (0 : Int) ∧ (0 : Int) ≤ 255; decide), (by intro x h; cases h), h⟩
def PS (A : Option Addr) (c : Nat) (l : List Int) : iW := ⟨0, 0, 0, false, none, 0, [], A, c, l⟩
theorem akC {A : Option Addr} {c : Nat} {l : List Int} (h : Bs l) : zi (PS A c l) := ⟨(by show 0 ≤ (0 : Int) ∧ (0 : Int) ≤ 255; decide), (by show 0 ≤ (0 : Int) ∧ (0 : Int) ≤ 255; decide), h, (by intro x h; cases h)⟩
end Gs
namespace Go.Sh
open Go
variable {P : Program} {w : World} {T : World → World → Prop} {Q : Value → Prop}
theorem aig {t n cap : Nat} {A : Option Addr} {xs : List Int} {k k1 k2 : IntKind} {lo hi : Int} (ht : zh P t = some 1) (hr : Rd w A (vals k xs)) (hl : n = xs.length) (h0 : 0 ≤ lo) (h1 : lo ≤ hi) (h2 : hi ≤ n) (hc : n ≤ cap)
  (h : ∀ A' c', Rd w A' (vals k ((xs.drop lo.toNat).take (hi.toNat - lo.toNat))) → Q (.slice A' (hi.toNat - lo.toNat) c')) :
  bC T w (fun w K => bi ((Instr.sliceAt t (.slice A n cap) (some (.int k1 lo)) (some (.int k2 hi)) none).run P w) aV K) Q := by
 unfold zh at ht
 split at ht
 ·rename_i e hu
  have hel : P.elem t = e := by simp [Program.elem, hu]
  have hu' : P.underlying t = some (.slice (P.elem t)) := by rw [hel]; exact hu
  refine bI (v := sliced A lo.toNat hi.toNat cap 1) (fun w' _ => ?_) (h _ _ ?_)
  ·have hr1 := run_slice_lh (P := P) w' t A n cap hu' k1 k2 lo hi h0 h1 (by omega)
   rw [uk (P := P) (w := w') (by rw [hel]; exact ht)] at hr1
   have hr2 := run_sliceAt_slice (P := P) w' t (.slice A n cap) (some (.int k1 lo)) (some (.int k2 hi)) none hu'
   rw [hr1] at hr2
   exact hr2
  subst hl
  by_cases he : cap = lo.toNat
  ·have : lo.toNat = xs.length := by omega
   left
   simp [vals, this]
  ·rw [if_neg he]
   cases A with
   | none =>
    rcases hr with hx | ⟨a, ha, _⟩
    ·have := congrArg List.length hx; rw [vals_length] at this; simp at this; subst this; left; simp [vals]
    ·cases ha
   | some a =>
    have := (hr.drop lo.toNat).take (hi.toNat - lo.toNat)
    rw [Nat.mul_one]
    simpa [vals, List.map_drop, List.map_take] using this
 ·cases ht
end Go.Sh
namespace Go.Sh
open Go Gs
theorem Vr {B e s : Nat} {w : World} {v v' : Value} {xs : List Value} (h : Own B w e s v xs) (q : v' = v) : Own B w e s v' xs := q ▸ h
theorem XZ {A : Option Addr} {n c k : Nat} (h : fC A k) : aH (.slice A n c) k := by obtain ⟨a, rfl, rfl⟩ := h; rfl
theorem ait {S : Nat → Prop} {os : List iW} {x : iW} (h : os = [] ∨ ∀ k, jI os k → ¬ S k) (hP : ∀ k, aH (.slice x.pA x.ps.length x.pc) k → ¬ S k) (hD : ∀ k, aH (.slice x.dA x.ds.length x.dc) k → ¬ S k) :
  os ++ [x] = [] ∨ ∀ k, jI (os ++ [x]) k → ¬ S k := by
 refine .inr fun k hk => ?_
 rcases Vq hk with hk | ⟨y, hy, hk⟩
 ·rcases h with rfl | h
  ·obtain ⟨y, hy, _⟩ := hk; cases hy
  ·exact h k hk
 ·cases List.mem_singleton.1 hy
  rcases hk with ⟨_, hk⟩ | ⟨_, hk⟩
  ·exact hP k (XZ hk)
  ·exact hD k (XZ hk)
theorem ais {B e1 e2 s1 s2 : Nat} {w : World} {x : iW} {l1 l2 : List Value} (hP : Own B w e1 s1 (.slice x.pA x.ps.length x.pc) l1) (hD : Own B w e2 s2 (.slice x.dA x.ds.length x.dc) l2) {k : Nat} (h : jI [x] k) : B ≤ k := by
 obtain ⟨y, hy, hk⟩ := h
 cases List.mem_singleton.1 hy
 rcases hk with ⟨_, hk⟩ | ⟨_, hk⟩
 ·exact (hP.KF k hk).1
 ·exact (hD.KF k hk).1
end Go.Sh
end
section
namespace Gs
open Go Go.Sh
structure iT where
 k : Int
 a : Int
 b : Int
 ge : Bool
 ps : List Pr
 ds : List Int
deriving DecidableEq
def iW.m (x : iW) : iT := ⟨x.k, x.a, x.b, x.ge, x.ps, x.ds⟩
def wQ (l : List iW) : List iT := l.map iW.m
theorem aeS (l : List iW) (x : iW) : wQ (l ++ [x]) = wQ l ++ [x.m] := by unfold wQ; rw [List.map_append]; rfl
theorem XO (l : List iW) : (wQ l).length = l.length := List.length_map ..
theorem XP {l : List iW} {k : Nat} {x : iW} (h : l[k]? = some x) : (wQ l)[k]? = some x.m := by unfold wQ; rw [List.getElem?_map, h]; rfl
def sW : List Int → Except Int (Int × List Int)
 | [] => .error 20
 | c :: r => if c < 64 then .error 31 else .ok (c, r)
def oJ (k : Int) (x : Pr) : Int :=
 if k = 41 ∨ k = 44 then (if x.t = 65 ∨ x.t = 66 ∨ x.t = 192 then 0 else 33) else
 if k = 40 then (if x.t = 65 ∨ x.t = 66 ∨ (x.t = 0 ∧ x.v = 0) then 0 else 33) else 33
def jM (k : Int) : Nat → List Int → Except Int (List Pr × List Int)
 | 0, l => .ok ([], l)
 | n + 1, l => match l with
  | t :: v :: r => if oJ k ⟨t, v⟩ ≠ 0 then .error (oJ k ⟨t, v⟩) else (match jM k n r with | .error e => .error e | .ok (ps, r') => .ok (⟨t, v⟩ :: ps, r'))
  | _ => .error 20
def tJ (l : List Int) : Except Int ((Int × Int × Bool) × List Int) :=
 match kK l with
 | .error e => .error e
 | .ok (p, r) => match fB r with
  | .error e => .error e
  | .ok (c, r1) => if c = 8 then (match sW r1 with | .error e => .error e | .ok (d, r2) => .ok ((p, d, true), r2)) else if fJ c = true then .ok ((p, c, false), r1) else .error 31
def jA : List Int → Except Int (iT × List Int)
 | [] => .error 20
 | c :: r => if fJ c = true then .ok (⟨0, 0, 0, false, [], (c :: r).takeWhile fJ⟩, (c :: r).dropWhile fJ) else
  if c = 17 ∨ c = 18 then (match kK r with | .error e => .error e | .ok (p, r1) => .ok (⟨c, p, 0, false, [], []⟩, r1)) else
  if c = 29 then (match fB r with | .error e => .error e | .ok (y, r1) => .ok (⟨c, 0, y % 64, false, [], []⟩, r1)) else
  if c = 41 ∨ c = 44 then (match fB r with | .error e => .error e | .ok (n, r1) => match jM c n.toNat r1 with | .error e => .error e | .ok (ps, r2) => .ok (⟨c, 0, 0, false, ps, []⟩, r2)) else
  if c = 40 then (match jM c 1 r with | .error e => .error e | .ok (ps, r2) => .ok (⟨c, 0, 0, false, ps, []⟩, r2)) else
  if c = 19 ∨ c = 5 then .ok (⟨c, 0, 0, false, [], []⟩, r) else
  if c = 60 then (match tJ r with | .error e => .error e | .ok ((p, d, g), r2) => .ok (⟨c, p, d, g, [], []⟩, r2)) else
  if c = 8 then (match sW r with | .error e => .error e | .ok (d, r1) => .ok (⟨c, 0, d, false, [], []⟩, r1)) else .error 31
theorem QR {l r : List Int} {c : Int} (h : sW l = .ok (c, r)) : r.length < l.length := by
 unfold sW at h
 split at h
 ·cases h
 ·split at h
  ·cases h
  ·cases h; simp
theorem Ei {l r : List Int} {c : Int} (h : fB l = .ok (c, r)) : r.length < l.length := by rw [dQ h]; simp
theorem G8 {k : Int} : ∀ {n : Nat} {l r : List Int} {ps : List Pr}, jM k n l = .ok (ps, r) → r.length ≤ l.length
 | 0, l, r, ps, h => by unfold jM at h; cases h; exact Nat.le_refl _
 | n + 1, l, r, ps, h => by
  unfold jM at h
  split at h
  ·split at h
   ·cases h
   ·split at h
    ·cases h
    ·rename_i h2
     cases h
     have := G8 h2
     simp only [List.length_cons]; omega
  ·cases h
theorem aeV {l r : List Int} {x : Int × Int × Bool} (h : tJ l = .ok (x, r)) : r.length < l.length := by
 unfold tJ at h
 split at h
 ·cases h
 ·rename_i h1
  have := yN h1
  split at h
  ·cases h
  ·rename_i h2
   have := Ei h2
   split at h
   ·split at h
    ·cases h
    ·rename_i h3
     have := QR h3
     cases h; omega
   ·split at h
    ·cases h; omega
    ·cases h
theorem Ii {p : Int → Bool} : ∀ l : List Int, (l.dropWhile p).length ≤ l.length
 | [] => Nat.le_refl _
 | x :: l => by
  have := Ii (p := p) l
  rw [List.dropWhile_cons]
  split
  ·simp only [List.length_cons]; omega
  ·exact Nat.le_refl _
theorem L8 {l r : List Int} {x : iT} (h : jA l = .ok (x, r)) : r.length < l.length := by
 unfold jA at h
 split at h
 ·cases h
 ·rename_i c r0
  simp only [List.length_cons]
  split at h
  ·rename_i hp
   cases h
   rw [List.dropWhile_cons, if_pos hp]
   have := Ii (p := fJ) r0
   omega
  split at h
  ·split at h
   ·cases h
   ·rename_i h1; cases h; have := yN h1; omega
  split at h
  ·split at h
   ·cases h
   ·rename_i h1; cases h; have := Ei h1; omega
  split at h
  ·split at h
   ·cases h
   ·rename_i h1
    split at h
    ·cases h
    ·rename_i h2; cases h; have := Ei h1; have := G8 h2; omega
  split at h
  ·split at h
   ·cases h
   ·rename_i h2; cases h; have := G8 h2; omega
  split at h
  ·cases h; omega
  split at h
  ·split at h
   ·cases h
   ·rename_i h1; cases h; have := aeV h1; omega
  split at h
  ·split at h
   ·cases h
   ·rename_i h1; cases h; have := QR h1; omega
  ·cases h
def iI (l : List Int) : List iT × Int :=
 if l = [] then ([], 0) else
 match h : jA l with
 | .error e => ([], e)
 | .ok (x, r) => (x :: (iI r).1, (iI r).2)
termination_by l.length
decreasing_by all_goals exact L8 h
theorem rZ : iI [] = ([], 0) := by unfold iI; rfl
theorem Jy {l : List Int} {e : Int} (hl : l ≠ []) (h : jA l = .error e) : iI l = ([], e) := by
 unfold iI
 rw [if_neg hl]
 split
 ·rename_i h2; rw [h] at h2; cases h2; rfl
 ·rename_i h2; rw [h] at h2; cases h2
theorem Ae {l r : List Int} {x : iT} (hl : l ≠ []) (h : jA l = .ok (x, r)) : iI l = (x :: (iI r).1, (iI r).2) := by
 rw [iI, if_neg hl]
 split
 ·rename_i h2; rw [h] at h2; cases h2
 ·rename_i h2; rw [h] at h2; cases h2; rfl
def preO (l : List iT) (x : List iT × Int) : List iT × Int := (l ++ x.1, x.2)
theorem aeQ (x : List iT × Int) : x = preO [] x := rfl
theorem acZ {a : List iT × Int} {l : List iT} {cur r : List Int} {x : iT} (h : a = preO l (iI cur)) (hl : cur ≠ []) (hx : jA cur = .ok (x, r)) : a = preO (l ++ [x]) (iI r) := by
 rw [h, Ae hl hx]; unfold preO; simp
theorem aeT {a : List iT × Int} {l : List iT} {cur : List Int} {e : Int} (h : a = preO l (iI cur)) (hl : cur ≠ []) (hx : jA cur = .error e) : a = (l, e) := by
 rw [h, Jy hl hx]; unfold preO; simp
theorem aeU {a : List iT × Int} {l : List iT} {cur : List Int} (h : a = preO l (iI cur)) (hl : cur = []) : a = (l, 0) := by
 rw [h, hl, rZ]; unfold preO; simp
theorem drop_at {bs : List Int} {pa : Nat} {y : Int} (h : bs[pa]? = some y) : bs.drop pa = y :: bs.drop (pa + 1) := by
 obtain ⟨hl, he⟩ := List.getElem?_eq_some_iff.1 h
 rw [List.drop_eq_getElem_cons hl, he]
theorem LZ {bs : List Int} {pa : Nat} {y : Int} (h : bs[pa]? = some y) : fB (bs.drop pa) = .ok (y, bs.drop (pa + 1)) := by rw [drop_at h]; rfl
theorem acR {bs : List Int} {pa : Nat} (h : bs.length ≤ pa) : fB (bs.drop pa) = .error 20 := by rw [List.drop_eq_nil_of_le h]; rfl
theorem acS {l r r2 : List Int} {a b : Int} (h : fB l = .ok (a, r)) (h2 : fB r = .ok (b, r2)) : kK l = .ok (uU a b, r2) := by rw [dQ h, dQ h2]; rfl
theorem acU {l : List Int} {e : Int} (h : fB l = .error e) : kK l = .error e := by obtain ⟨rfl, rfl⟩ := qN h; rfl
theorem acT {l r : List Int} {a e : Int} (h : fB l = .ok (a, r)) (h2 : fB r = .error e) : kK l = .error e := by obtain ⟨h3, rfl⟩ := qN h2; rw [dQ h, h3]; rfl
theorem aeJ {l r : List Int} {a : Int} (h : fB l = .ok (a, r)) (h2 : ¬ a < 64) : sW l = .ok (a, r) := by rw [dQ h]; unfold sW; dsimp only; rw [if_neg h2]
theorem aeK {l : List Int} {e : Int} (h : fB l = .error e) : sW l = .error e := by obtain ⟨rfl, rfl⟩ := qN h; rfl
theorem aeI {l r : List Int} {a : Int} (h : fB l = .ok (a, r)) (h2 : a < 64) : sW l = .error 31 := by rw [dQ h]; unfold sW; dsimp only; rw [if_pos h2]
def Dp (l : List Pr) (x : Except Int (List Pr × List Int)) : Except Int (List Pr × List Int) := match x with | .error e => .error e | .ok (ps, r) => .ok (l ++ ps, r)
theorem aeL (x : Except Int (List Pr × List Int)) : x = Dp [] x := by unfold Dp; split <;> rfl
theorem acV {a : Except Int (List Pr × List Int)} {l : List Pr} {k t v : Int} {m n : Nat} {c0 c1 c2 : List Int} (h : a = Dp l (jM k (m - n) c0)) (hn : n < m) (h1 : fB c0 = .ok (t, c1)) (h2 : fB c1 = .ok (v, c2)) (hc : oJ k ⟨t, v⟩ = 0) : a = Dp (l ++ [⟨t, v⟩]) (jM k (m - (n + 1)) c2) := by
 rw [h, show m - n = (m - (n + 1)) + 1 by omega, dQ h1, dQ h2, jM, if_neg (fun h => h hc)]
 unfold Dp
 cases jM k (m - (n + 1)) c2 with
 | error e => rfl
 | ok x => simp
theorem aib {a : Except Int (List Pr × List Int)} {l : List Pr} {k e : Int} {m n : Nat} {c0 : List Int} (h : a = Dp l (jM k (m - n) c0)) (hn : n < m) (h1 : fB c0 = .error e) : a = .error e := by
 obtain ⟨rfl, rfl⟩ := qN h1
 rw [h, show m - n = (m - (n + 1)) + 1 by omega]; rfl
theorem aia {a : Except Int (List Pr × List Int)} {l : List Pr} {k t e : Int} {m n : Nat} {c0 c1 : List Int} (h : a = Dp l (jM k (m - n) c0)) (hn : n < m) (h1 : fB c0 = .ok (t, c1)) (h2 : fB c1 = .error e) : a = .error e := by
 obtain ⟨h3, rfl⟩ := qN h2
 rw [h, show m - n = (m - (n + 1)) + 1 by omega, dQ h1, h3]; rfl
theorem ah9 {a : Except Int (List Pr × List Int)} {l : List Pr} {k t v : Int} {m n : Nat} {c0 c1 c2 : List Int} (h : a = Dp l (jM k (m - n) c0)) (hn : n < m) (h1 : fB c0 = .ok (t, c1)) (h2 : fB c1 = .ok (v, c2)) (hc : ¬ oJ k ⟨t, v⟩ = 0) : a = .error (oJ k ⟨t, v⟩) := by
 rw [h, show m - n = (m - (n + 1)) + 1 by omega, dQ h1, dQ h2, jM, if_pos hc]; rfl
theorem aeM {a : Except Int (List Pr × List Int)} {l : List Pr} {k : Int} {m : Nat} {c0 : List Int} (h : a = Dp l (jM k (m - m) c0)) : a = .ok (l, c0) := by
 rw [h, Nat.sub_self]; unfold jM Dp; simp
theorem aif {l : List Int} {e : Int} (h : kK l = .error e) : tJ l = .error e := by unfold tJ; rw [h]
theorem aie {l r : List Int} {p e : Int} (h : kK l = .ok (p, r)) (h2 : fB r = .error e) : tJ l = .error e := by unfold tJ; rw [h]; dsimp only; rw [h2]
theorem acW {l r r1 : List Int} {p c : Int} (h : kK l = .ok (p, r)) (h2 : fB r = .ok (c, r1)) (hc : c = 8) : tJ l = match sW r1 with | .error e => .error e | .ok (d, r2) => .ok ((p, d, true), r2) := by unfold tJ; rw [h]; dsimp only; rw [h2]; dsimp only; rw [if_pos hc]
theorem akA {l r r1 : List Int} {p c : Int} (h : kK l = .ok (p, r)) (h2 : fB r = .ok (c, r1)) (hc : ¬ c = 8) (hp : fJ c = true) : tJ l = .ok ((p, c, false), r1) := by unfold tJ; rw [h]; dsimp only; rw [h2]; dsimp only; rw [if_neg hc, if_pos hp]
theorem aic {l r r1 : List Int} {p c : Int} (h : kK l = .ok (p, r)) (h2 : fB r = .ok (c, r1)) (hc : ¬ c = 8) (hp : fJ c = false) : tJ l = .error 31 := by unfold tJ; rw [h]; dsimp only; rw [h2]; dsimp only; rw [if_neg hc, if_neg (by rw [hp]; decide)]
theorem aa4 {bs : List Int} {p0 p1 : Nat} (h : p0 ≤ p1) (hp : p1 ≤ bs.length) (hall : ∀ (j : Nat) x, p0 ≤ j → j < p1 → bs[j]? = some x → fJ x = true) (hend : ∀ x, bs[p1]? = some x → fJ x = false) :
  (bs.drop p0).takeWhile fJ = (bs.drop p0).take (p1 - p0) ∧ (bs.drop p0).dropWhile fJ = bs.drop p1 := by
 have hn : ∃ n, p1 = p0 + n := ⟨p1 - p0, by omega⟩
 obtain ⟨n, rfl⟩ := hn
 clear h
 induction n generalizing p0 with
 | zero =>
  rw [show p0 + 0 - p0 = 0 by omega, List.take_zero, Nat.add_zero]
  cases hb : bs[p0]? with
  | none => rw [List.drop_eq_nil_of_le (List.getElem?_eq_none_iff.1 hb)]; exact ⟨rfl, rfl⟩
  | some x =>
   have := hend x hb
   rw [drop_at hb, List.takeWhile_cons, List.dropWhile_cons, this]; exact ⟨rfl, rfl⟩
 | succ n ih =>
  have hlt : p0 < bs.length := by omega
  have hb := List.getElem?_eq_getElem hlt
  have hpl := hall p0 _ (Nat.le_refl _) (by omega) hb
  have := ih (p0 := p0 + 1) (by omega) (fun j x h1 h2 => hall j x (by omega) (by omega)) (fun x hx => hend x (by rw [show p0 + (n + 1) = p0 + 1 + n by omega]; exact hx))
  rw [drop_at hb, List.takeWhile_cons, List.dropWhile_cons, hpl, if_pos rfl, if_pos rfl, this.1, this.2, show p0 + (n + 1) - p0 = (p0 + 1 + n - (p0 + 1)) + 1 by omega, List.take_succ_cons, show p0 + (n + 1) = p0 + 1 + n by omega]
  exact ⟨rfl, rfl⟩
theorem akB {bs : List Int} {p0 p1 : Nat} {y : Int} (hy : bs[p0]? = some y) (hp : fJ y = true) (h : p0 ≤ p1) (hl : p1 ≤ bs.length) (hall : ∀ (j : Nat) x, p0 ≤ j → j < p1 → bs[j]? = some x → fJ x = true) (hend : ∀ x, bs[p1]? = some x → fJ x = false) :
  jA (bs.drop p0) = .ok (⟨0, 0, 0, false, [], (bs.drop p0).take (p1 - p0)⟩, bs.drop p1) := by
 obtain ⟨h1, h2⟩ := aa4 h hl hall hend
 rw [← h1, ← h2, drop_at hy, jA, if_pos hp]
section
variable {l r r1 r2 : List Int} {c : Int}
theorem akD {p : Int} (h : fB l = .ok (c, r)) (hp : fJ c = false) (hc : c = 17 ∨ c = 18) (h1 : kK r = .ok (p, r1)) : jA l = .ok (⟨c, p, 0, false, [], []⟩, r1) := by
 rw [dQ h, jA, if_neg (by rw [hp]; decide), if_pos hc, h1]
theorem aih {e : Int} (h : fB l = .ok (c, r)) (hp : fJ c = false) (hc : c = 17 ∨ c = 18) (h1 : kK r = .error e) : jA l = .error e := by
 rw [dQ h, jA, if_neg (by rw [hp]; decide), if_pos hc, h1]
theorem akE {y : Int} (h : fB l = .ok (c, r)) (hp : fJ c = false) (hc : c = 29) (h1 : fB r = .ok (y, r1)) : jA l = .ok (⟨c, 0, y % 64, false, [], []⟩, r1) := by
 rw [dQ h, jA, if_neg (by rw [hp]; decide), if_neg (by omega), if_pos hc, h1]
theorem aii {e : Int} (h : fB l = .ok (c, r)) (hp : fJ c = false) (hc : c = 29) (h1 : fB r = .error e) : jA l = .error e := by
 rw [dQ h, jA, if_neg (by rw [hp]; decide), if_neg (by omega), if_pos hc, h1]
theorem akF {n : Int} {ps : List Pr} (h : fB l = .ok (c, r)) (hp : fJ c = false) (hc : c = 41 ∨ c = 44) (h1 : fB r = .ok (n, r1)) (h2 : jM c n.toNat r1 = .ok (ps, r2)) : jA l = .ok (⟨c, 0, 0, false, ps, []⟩, r2) := by
 rw [dQ h, jA, if_neg (by rw [hp]; decide), if_neg (by omega), if_neg (by omega), if_pos hc, h1]; dsimp only; rw [h2]
theorem aeP {e : Int} (h : fB l = .ok (c, r)) (hp : fJ c = false) (hc : c = 41 ∨ c = 44) (h1 : fB r = .error e) : jA l = .error e := by
 rw [dQ h, jA, if_neg (by rw [hp]; decide), if_neg (by omega), if_neg (by omega), if_pos hc, h1]
theorem aeO {n e : Int} (h : fB l = .ok (c, r)) (hp : fJ c = false) (hc : c = 41 ∨ c = 44) (h1 : fB r = .ok (n, r1)) (h2 : jM c n.toNat r1 = .error e) : jA l = .error e := by
 rw [dQ h, jA, if_neg (by rw [hp]; decide), if_neg (by omega), if_neg (by omega), if_pos hc, h1]; dsimp only; rw [h2]
theorem akG {ps : List Pr} (h : fB l = .ok (c, r)) (hp : fJ c = false) (hc : c = 40) (h2 : jM c 1 r = .ok (ps, r2)) : jA l = .ok (⟨c, 0, 0, false, ps, []⟩, r2) := by
 rw [dQ h, jA, if_neg (by rw [hp]; decide), if_neg (by omega), if_neg (by omega), if_neg (by omega), if_pos hc, h2]
theorem aij {e : Int} (h : fB l = .ok (c, r)) (hp : fJ c = false) (hc : c = 40) (h2 : jM c 1 r = .error e) : jA l = .error e := by
 rw [dQ h, jA, if_neg (by rw [hp]; decide), if_neg (by omega), if_neg (by omega), if_neg (by omega), if_pos hc, h2]
theorem akH (h : fB l = .ok (c, r)) (hp : fJ c = false) (hc : c = 19 ∨ c = 5) : jA l = .ok (⟨c, 0, 0, false, [], []⟩, r) := by
 rw [dQ h, jA, if_neg (by rw [hp]; decide), if_neg (by omega), if_neg (by omega), if_neg (by omega), if_neg (by omega), if_pos hc]
theorem akI {p d : Int} {g : Bool} (h : fB l = .ok (c, r)) (hp : fJ c = false) (hc : c = 60) (h1 : tJ r = .ok ((p, d, g), r1)) : jA l = .ok (⟨c, p, d, g, [], []⟩, r1) := by
 rw [dQ h, jA, if_neg (by rw [hp]; decide), if_neg (by omega), if_neg (by omega), if_neg (by omega), if_neg (by omega), if_neg (by omega), if_pos hc, h1]
theorem aik {e : Int} (h : fB l = .ok (c, r)) (hp : fJ c = false) (hc : c = 60) (h1 : tJ r = .error e) : jA l = .error e := by
 rw [dQ h, jA, if_neg (by rw [hp]; decide), if_neg (by omega), if_neg (by omega), if_neg (by omega), if_neg (by omega), if_neg (by omega), if_pos hc, h1]
theorem akJ {d : Int} (h : fB l = .ok (c, r)) (hp : fJ c = false) (hc : c = 8) (h1 : sW r = .ok (d, r1)) : jA l = .ok (⟨c, 0, d, false, [], []⟩, r1) := by
 rw [dQ h, jA, if_neg (by rw [hp]; decide), if_neg (by omega), if_neg (by omega), if_neg (by omega), if_neg (by omega), if_neg (by omega), if_neg (by omega), if_pos hc, h1]
theorem ail {e : Int} (h : fB l = .ok (c, r)) (hp : fJ c = false) (hc : c = 8) (h1 : sW r = .error e) : jA l = .error e := by
 rw [dQ h, jA, if_neg (by rw [hp]; decide), if_neg (by omega), if_neg (by omega), if_neg (by omega), if_neg (by omega), if_neg (by omega), if_neg (by omega), if_pos hc, h1]
theorem aim (h : fB l = .ok (c, r)) (hp : fJ c = false) (hc : ¬ (c = 17 ∨ c = 18 ∨ c = 29 ∨ c = 41 ∨ c = 44 ∨ c = 40 ∨ c = 19 ∨ c = 5 ∨ c = 60 ∨ c = 8)) : jA l = .error 31 := by
 rw [dQ h, jA, if_neg (by rw [hp]; decide), if_neg (by omega), if_neg (by omega), if_neg (by omega), if_neg (by omega), if_neg (by omega), if_neg (by omega), if_neg (by omega)]
end
end Gs
end
