/- Part of a proof. No condition but those that its theorems state. -/
import Derived.Test.YtjdoakbadehicaaGreatDoorQa
import Derived.Test.YtjdoakbadehicaaGreatDoorQc
import Derived.Lib.LaidTab
import Derived.Lib.AppendIntMem
import Derived.ChangeSame
import Derived.Deep.Slices
set_option linter.unusedVariables false
set_option linter.unusedSimpArgs false
section
namespace Go.Proofs.YtjdoakbadehicaaGreatDoor
open Go Go.Sh
set_option maxRecDepth 100000
theorem adZ {n : Int} {w : World} (hn : 0 ≤ n ∧ n < 100) : oX 77 #[Z.i n] w fun e w' => e = .returned (.string (Gs.yu n)) ∧ az no w w' := by
  obtain ⟨m, rfl⟩ := Int.eq_ofNat_of_zero_le hn.1
  rw [Gs.PM]
  exact (Go.Proofs.Tryz.strconv_Itoa_small m (by omega) w).mono fun e w' h => ⟨h.1, by rw [h.2]; exact Fr.refl _ _ _⟩
theorem Ir {v : Int} {w : World} :
    oX 114 #[Z.i v] w fun e w' => e = .returned (Z.u (Gs.lY v)) ∧ az no w w' := by
 refine YZ.calls ?_
 unfold YZ
 have hvm : 0 ≤ v % 64 ∧ v % 64 < 64 := by omega
 have hF : az no w w := Fr.refl _ _ _
 refine aj (ai1 _ _) ?_
 refine aj (YD _ (by omega) (by omega) (by omega)) ?_
 refine ay (geq _ _ _ _) (fun h1 => ?_) (fun h1 => ?_)
 refine bD (bD ?_)
 refine ay (leq _ _ _ _) (fun h2 => ?_) (fun h2 => ?_)
 refine bu (bD (bD ?_))
 refine ay (kL _ _ _ _ _) (fun h3 => ?_) (fun h3 => ?_)
 refine bu (bI (bI (bu (aH ?_))))
 refine aj (Pm _ (by omega) (by omega)) ?_
 refine aj (xN (by kernel_rfl) (by kernel_rfl) (by omega)) ?_
 exact ⟨nI (by unfold Gs.lY; dsimp only; (rw [if_pos (by omega)] <;> omega)), hF⟩
 refine bu (bP (bP ?_))
 refine ay (dC _ _ _ _ _) (fun h5 => ?_) (fun h5 => ?_)
 refine bG (aH ?_)
 refine aj (Pm _ (by omega) (by omega)) ?_
 refine aj (xN (by kernel_rfl) (by kernel_rfl) (by omega)) ?_
 exact ⟨nI (by unfold Gs.lY; dsimp only; (rw [if_pos (by omega)] <;> omega)), hF⟩
 refine bG (aB ?_)
 refine aj (Pm _ (by omega) (by omega)) ?_
 refine aj (xN (by kernel_rfl) (by kernel_rfl) (by omega)) ?_
 exact ⟨nI (by unfold Gs.lY; dsimp only; (rw [if_neg (by omega)] <;> omega)), hF⟩
 refine bu (bf (bf (bG (bP (bP ?_)))))
 refine ay (dC _ _ _ _ _) (fun h8 => ?_) (fun h8 => ?_)
 refine bG (aH ?_)
 refine aj (Pm _ (by omega) (by omega)) ?_
 refine aj (xN (by kernel_rfl) (by kernel_rfl) (by omega)) ?_
 exact ⟨nI (by unfold Gs.lY; dsimp only; (rw [if_pos (by omega)] <;> omega)), hF⟩
 refine bG (aB ?_)
 refine aj (Pm _ (by omega) (by omega)) ?_
 refine aj (xN (by kernel_rfl) (by kernel_rfl) (by omega)) ?_
 exact ⟨nI (by unfold Gs.lY; dsimp only; (rw [if_neg (by omega)] <;> omega)), hF⟩
 refine bf (bf (bG (bf (bf (bG (bP (bP ?_)))))))
 refine ay (dC _ _ _ _ _) (fun h11 => ?_) (fun h11 => ?_)
 refine bG (aH ?_)
 refine aj (Pm _ (by omega) (by omega)) ?_
 refine aj (xN (by kernel_rfl) (by kernel_rfl) (by omega)) ?_
 exact ⟨nI (by unfold Gs.lY; dsimp only; (rw [if_pos (by omega)] <;> omega)), hF⟩
 refine bG (aB ?_)
 refine aj (Pm _ (by omega) (by omega)) ?_
 refine aj (xN (by kernel_rfl) (by kernel_rfl) (by omega)) ?_
 exact ⟨nI (by unfold Gs.lY; dsimp only; (rw [if_neg (by omega)] <;> omega)), hF⟩
theorem Iu {a : Int} {w : World} (ha : 0 ≤ a ∧ a ≤ 255) :
    oX 159 #[Z.u a] w fun e w' => e = .returned (Z.i (a % 64)) ∧ az no w w' := by
 refine Zh.calls ?_
 unfold Zh
 have hF : az no w w := Fr.refl _ _ _
 refine aj (EC _ (by omega)) ?_
 refine aj (kC (by kernel_rfl) (by kernel_rfl) (by omega)) ?_
 exact ⟨rfl, hF⟩
theorem Hg {a b : Int} {w : World} (ha : 0 ≤ a ∧ a ≤ 255) (hb : 0 ≤ b ∧ b ≤ 255) :
    oX 138 #[Z.u a, Z.u b] w fun e w' => e = .returned (Z.i (Gs.uH a b)) ∧ az no w w' := by
 refine Za.calls ?_
 unfold Za
 have hF : az no w w := Fr.refl _ _ _
 refine aj (X3 _ (by omega)) ?_
 refine ay (dC _ _ _ _ _) (fun h1 => ?_) (fun h1 => ?_)
 refine aH ?_
 refine aj (kC (by kernel_rfl) (by kernel_rfl) (by omega)) ?_
 refine aj (ai0 _ (by omega)) ?_
 refine aj (kC (by kernel_rfl) (by kernel_rfl) (by omega)) ?_
 refine aj (or8 _ (by omega) (by omega)) ?_
 exact ⟨nI (by unfold Gs.uH; (rw [if_pos (by omega)] <;> omega)), hF⟩
 refine aB ?_
 refine aG (Iu ha) (fun w3 U3 => ?_)
 refine aj (aoi _ (by omega)) ?_
 refine aG (Iu hb) (fun w4 U4 => ?_)
 refine aj (Pm _ (by omega) (by omega)) ?_
 replace hF := (hF.go0 U3).go0 U4
 exact ⟨nI (by unfold Gs.uH; (rw [if_neg (by omega)] <;> omega)), hF⟩
theorem QN {p n : Int} {w : World} :
    oX 113 #[Z.i p, Z.i n] w fun e w' => e = .returned (.tuple #[.agg #[Z.u (Gs.mD p n).1, Z.u (Gs.mD p n).2.1], Z.i (Gs.mD p n).2.2]) ∧ az no w w' := by
 refine YY.calls ?_
 unfold YY
 have hF : az no w w := Fr.refl _ _ _
 refine Z.n (#[Z.u 0, Z.u 0]) (fun b1 w1 e1 ah _ U1 => ?_)
 have bU : w.heap.size ≤ b1 := by have := hF.size; omega
 refine ay (lss _ _ _ _) (fun h2 => ?_) (fun h2 => ?_)
 refine bI (bI (bu (bI (bI (bu (bI (bI (bI (bu (aH ?_))))))))))
 refine aj (tC (n := 2) (m := 1) (z := #[Z.u 0, Z.u 0]) (by kernel_rfl) (by kernel_rfl) (by (simp [eP, splice, gq, Value.cells, Gs.cv]; rfl))) ?_
 refine gQ (n := 2) (by kernel_rfl) (by rfl) (by (simp [Value.cells, Value.oneCell', Gs.cv]; done)) ah (Nat.le_of_ble_eq_true rfl) (by (simp; rfl)) (fun w3 ah _ U3 => ?_)
 refine Z.a 2 ah ?_
 replace hF := (hF.go0 U1).go1 U3 bU
 rw [Gs.FX (by omega)]; exact ⟨rfl, hF⟩
 refine bP (bP ?_)
 refine ay (gtr _ _ _ _) (fun h5 => ?_) (fun h5 => ?_)
 refine bG (bI (bI (bu (bI (bI (bI (bu (aH ?_))))))))
 refine aj (tC (n := 2) (m := 1) (z := #[Z.u 0, Z.u 0]) (by kernel_rfl) (by kernel_rfl) (by (simp [eP, splice, gq, Value.cells, Gs.cv]; rfl))) ?_
 refine gQ (n := 2) (by kernel_rfl) (by rfl) (by (simp [Value.cells, Value.oneCell', Gs.cv]; done)) ah (Nat.le_of_ble_eq_true rfl) (by (simp; rfl)) (fun w6 ah _ U6 => ?_)
 refine Z.a 2 ah ?_
 replace hF := (hF.go0 U1).go1 U6 bU
 rw [Gs.FX (by omega)]; exact ⟨rfl, hF⟩
 refine bG (bP (bP ?_))
 refine ay (lss _ _ _ _) (fun h8 => ?_) (fun h8 => ?_)
 refine bG (bI (bI (bI (bu (aH ?_)))))
 refine aj (tC (n := 2) (m := 1) (z := #[Z.u 0, Z.u 0]) (by kernel_rfl) (by kernel_rfl) (by (simp [eP, splice, gq, Value.cells, Gs.cv]; rfl))) ?_
 refine gQ (n := 2) (by kernel_rfl) (by rfl) (by (simp [Value.cells, Value.oneCell', Gs.cv]; done)) ah (Nat.le_of_ble_eq_true rfl) (by (simp; rfl)) (fun w9 ah _ U9 => ?_)
 refine Z.a 2 ah ?_
 replace hF := (hF.go0 U1).go1 U9 bU
 rw [Gs.FX (by omega)]; exact ⟨rfl, hF⟩
 refine bG (bP (bP (bP ?_)))
 refine ay (geq _ _ _ _) (fun h11 => ?_) (fun h11 => ?_)
 refine bG (aH ?_)
 refine aj (tC (n := 2) (m := 1) (z := #[Z.u 0, Z.u 0]) (by kernel_rfl) (by kernel_rfl) (by (simp [eP, splice, gq, Value.cells, Gs.cv]; rfl))) ?_
 refine gQ (n := 2) (by kernel_rfl) (by rfl) (by (simp [Value.cells, Value.oneCell', Gs.cv]; done)) ah (Nat.le_of_ble_eq_true rfl) (by (simp; rfl)) (fun w12 ah _ cZ => ?_)
 refine Z.a 2 ah ?_
 replace hF := (hF.go0 U1).go1 cZ bU
 rw [Gs.FX (by omega)]; exact ⟨rfl, hF⟩
 refine bG (aB ?_)
 refine ay (gtr _ _ _ _) (fun h14 => ?_) (fun h14 => ?_)
 refine aH ?_
 refine aj (aoh _ _) ?_
 refine aj (xN (by kernel_rfl) (by kernel_rfl) (by omega)) ?_
 refine aj (ag8 (by kernel_rfl) (by kernel_rfl)) ?_
 refine aj (tC (n := 2) (m := 1) (z := #[Z.u 0, Z.u 0]) (by kernel_rfl) (by kernel_rfl) (by (simp [eP, splice, gq, Value.cells, Gs.cv]; rfl))) ?_
 refine gQ (n := 2) (by kernel_rfl) (by rfl) (by (simp [Value.cells, Value.oneCell', Gs.cv]; done)) ah (Nat.le_of_ble_eq_true rfl) (by (simp; rfl)) (fun w16 ah _ bZ => ?_)
 refine Z.a 2 ah ?_
 replace hF := (hF.go0 U1).go1 bZ bU
 rw [Gs.ad1 (by omega) (by omega)]; exact ⟨rfl, hF⟩
 refine aB ?_
 refine aj (aog _ _) ?_
 refine aG (Ir (v := p / 64)) (fun uY dE => ?_)
 refine aG (Ir (v := p)) (fun yK eu => ?_)
 refine aj (tC (n := 2) (m := 1) (z := #[Z.u 0, Z.u 0]) (by kernel_rfl) (by kernel_rfl) (by (simp [eP, splice, gq, Value.cells, Gs.cv]; rfl))) ?_
 replace ah := eu.ag (dE.ag ah)
 refine gQ (n := 2) (by kernel_rfl) (by rfl) (by (simp [Value.cells, Value.oneCell', Gs.cv]; done)) ah (Nat.le_of_ble_eq_true rfl) (by (simp; rfl)) (fun wE ah _ dJ => ?_)
 refine Z.a 2 ah ?_
 replace hF := (((hF.go0 U1).go0 dE).go0 eu).go1 dJ bU
 rw [Gs.ZY (by omega) (by omega)]; exact ⟨rfl, hF⟩
theorem qU {b : Int} {w : World} :
    oX 115 #[Z.u b] w fun e w' => e = .returned (.bool (Gs.fG b)) ∧ az no w w' := by
 refine Y0.calls ?_
 unfold Y0
 have hF : az no w w := Fr.refl _ _ _
 refine bH (fun g w' => ∃ (q : Bool), (g 4 = .bool q) ∧ (q = decide (b = 0 ∨ b = 12 ∨ b = 13 ∨ b = 21 ∨ b = 25 ∨ b = 28 ∨ b = 30 ∨ b = 63)) ∧ (az no w w')) (fun J1 hJ1 => ?_) (fun gJ1 jX hI => ?_)
 refine ay (dC _ _ _ _ _) (fun h1 => ?_) (fun h1 => ?_)
 refine aH ?_
 refine hJ1 _ _ ?_
 exact ⟨_, (by rfl), (by exact (decide_eq_true (by omega)).symm), hF⟩
 refine aB ?_
 refine ay (dC _ _ _ _ _) (fun h2 => ?_) (fun h2 => ?_)
 refine aH ?_
 refine hJ1 _ _ ?_
 exact ⟨_, (by rfl), (by exact (decide_eq_true (by omega)).symm), hF⟩
 refine aB ?_
 refine ay (dC _ _ _ _ _) (fun h3 => ?_) (fun h3 => ?_)
 refine aH ?_
 refine hJ1 _ _ ?_
 exact ⟨_, (by rfl), (by exact (decide_eq_true (by omega)).symm), hF⟩
 refine aB ?_
 refine ay (dC _ _ _ _ _) (fun h4 => ?_) (fun h4 => ?_)
 refine aH ?_
 refine hJ1 _ _ ?_
 exact ⟨_, (by rfl), (by exact (decide_eq_true (by omega)).symm), hF⟩
 refine aB ?_
 refine ay (dC _ _ _ _ _) (fun h5 => ?_) (fun h5 => ?_)
 refine aH ?_
 refine hJ1 _ _ ?_
 exact ⟨_, (by rfl), (by exact (decide_eq_true (by omega)).symm), hF⟩
 refine aB ?_
 refine ay (dC _ _ _ _ _) (fun h6 => ?_) (fun h6 => ?_)
 refine aH ?_
 refine hJ1 _ _ ?_
 exact ⟨_, (by rfl), (by exact (decide_eq_true (by omega)).symm), hF⟩
 refine aB ?_
 refine ay (dC _ _ _ _ _) (fun h7 => ?_) (fun h7 => ?_)
 refine aH ?_
 refine hJ1 _ _ ?_
 exact ⟨_, (by rfl), (by exact (decide_eq_true (by omega)).symm), hF⟩
 refine aB ?_
 refine ay (dC _ _ _ _ _) (fun h8 => ?_) (fun h8 => ?_)
 refine hJ1 _ _ ?_
 exact ⟨_, (by rfl), (by exact (decide_eq_true (by omega)).symm), hF⟩
 refine hJ1 _ _ ?_
 exact ⟨_, (by rfl), (by exact (decide_eq_false (by omega)).symm), hF⟩
 obtain ⟨q, g4, hq, hF⟩ := hI
 rw [g4]
 refine jZ (fun h9 => ?_) (fun h9 => ?_)
 rw [Gs.ZZ (of_decide_eq_true (hq.symm.trans (by assumption)))]; exact ⟨rfl, hF⟩
 refine aj (geq _ _ _ _) ?_
 rw [Gs.ad2 (of_decide_eq_false (hq.symm.trans (by assumption)))]; exact ⟨rfl, hF⟩
theorem Oy {page : Int} {c : Gs.Cell} {w : World} (hc : 0 ≤ c.b ∧ c.b ≤ 255) :
    oX 78 #[Z.i page, .agg (Gs.cv c).toArray] w fun e w' => e = .returned (.string (Utf8.encode (Gs.uS page c))) ∧ az no w w' := by
 refine F78.calls ?_
 unfold F78
 have hF : az no w w := Fr.refl _ _ _
 refine Z.x ((Gs.cv c).toArray) (fun b1 w1 e1 ah _ U1 => ?_)
 refine Z.f 2 ?_
 refine mQ (kK (by kernel_rfl) ah (by rfl)) (fun h2 => ?_) (fun h2 => ?_)
 refine bI (bI (bI (bI (qA (qA (qA (qA (bI (bu (aH ?_))))))))))
 replace hF := hF.go0 U1
 exact ⟨congrArg (fun r => Ending.returned (.string r)) (by exact (Gs.Tq (.inl (by assumption)))), hF⟩
 refine bP ?_
 refine Z.f 1 ?_
 refine bP ?_
 refine mQ (kK (by kernel_rfl) ah (by rfl)) (fun h4 => ?_) (fun h4 => ?_)
 refine bP ?_
 refine aj (lX) ?_
 refine bP (bf (bf (bf (bf (bP (bG (bG (aB ?_))))))))
 refine Z.f 1 ?_
 refine mQ (kK (by kernel_rfl) ah (by rfl)) (fun h5 => ?_) (fun h5 => ?_)
 refine aH ?_
 refine Z.f 0 ?_
 refine Z.l ah ?_
 refine aG (EI (by omega) (by omega)) (fun w6 U6 => ?_)
 refine aj (MP (by kernel_rfl) (by kernel_rfl)) ?_
 replace hF := (hF.go0 U1).go0 U6
 exact ⟨congrArg (fun r => Ending.returned (.string r)) (by exact (congrArg Utf8.encode (Gs.Tt (by simp_all) (by assumption))).symm), hF⟩
 refine aB ?_
 refine Z.f 0 ?_
 refine Z.l ah ?_
 refine aG (DZ (by omega) (by omega)) (fun w8 U8 => ?_)
 refine aj (MP (by kernel_rfl) (by kernel_rfl)) ?_
 replace hF := (hF.go0 U1).go0 U8
 exact ⟨congrArg (fun r => Ending.returned (.string r)) (by exact absurd (Eq.trans (Eq.symm (show c.ge = true by assumption)) (show c.ge = false by assumption)) (by decide)), hF⟩
 refine bP ?_
 refine aj (mV) ?_
 refine bP (bD ?_)
 refine Z.f 0 ?_
 refine bD ?_
 refine Z.l ah ?_
 refine bD ?_
 refine dS (Og) (fun w10 aT h10 => ?_) (fun w10 aT h10 => ?_)
 simp only [Z.d, Z.c] at h10
 refine bD ?_
 refine aj (lX) ?_
 refine bP (bu (bG (aB ?_)))
 refine Z.f 1 ?_
 replace ah := aT.ag ah
 refine mQ (kK (by kernel_rfl) ah (by rfl)) (fun h11 => ?_) (fun h11 => ?_)
 refine aH ?_
 refine Z.f 0 ?_
 refine Z.l ah ?_
 refine aG (EI (by omega) (by omega)) (fun w12 cZ => ?_)
 refine aj (MP (by kernel_rfl) (by kernel_rfl)) ?_
 replace hF := ((hF.go0 U1).go0 aT).go0 cZ
 exact ⟨congrArg (fun r => Ending.returned (.string r)) (by exact (congrArg Utf8.encode (Gs.Tt (by simp_all) (by assumption))).symm), hF⟩
 refine aB ?_
 refine Z.f 0 ?_
 refine Z.l ah ?_
 refine aG (DZ (by omega) (by omega)) (fun sJ dw => ?_)
 refine aj (MP (by kernel_rfl) (by kernel_rfl)) ?_
 replace hF := ((hF.go0 U1).go0 aT).go0 dw
 exact ⟨congrArg (fun r => Ending.returned (.string r)) (by exact (congrArg Utf8.encode (Gs.ad3 (by simp_all) (by simp_all) (by omega))).symm), hF⟩
 simp only [Z.d, Z.c] at h10
 refine bD ?_
 refine aj (mV) ?_
 refine bP (bu (bG (aH ?_)))
 replace hF := (hF.go0 U1).go0 aT
 exact ⟨congrArg (fun r => Ending.returned (.string r)) (by exact (Gs.Tq (.inr ⟨by assumption, by omega⟩))), hF⟩
theorem Hu {b : Int} {w : World} (hb : 0 ≤ b ∧ b ≤ 255) :
    oX 81 #[Z.u b] w fun e w' => e = .returned (Z.i (Gs.lg b)) ∧ az no w w' := by
 refine F81.calls ?_
 unfold F81
 have hF : az no w w := Fr.refl _ _ _
 refine bH (fun g w' => (g 3 = Z.i (Gs.lg b)) ∧ (az no w w')) (fun J1 hJ1 => ?_) (fun gJ1 jX hI => ?_)
 refine ay (geq _ _ _ _) (fun h1 => ?_) (fun h1 => ?_)
 refine bD (bD ?_)
 refine ay (leq _ _ _ _) (fun h2 => ?_) (fun h2 => ?_)
 refine bu (aH ?_)
 refine aj (qI _ (by omega)) ?_
 refine aj (kC (by kernel_rfl) (by kernel_rfl) (by omega)) ?_
 refine hJ1 _ _ ?_
 exact ⟨(congrArg (Value.int .i64) (by unfold Gs.lg; (rw [if_pos (by omega)] <;> omega))), hF⟩
 refine bu (aB ?_)
 refine ay (geq _ _ _ _) (fun h3 => ?_) (fun h3 => ?_)
 refine bD (bD ?_)
 refine ay (leq _ _ _ _) (fun h4 => ?_) (fun h4 => ?_)
 refine bu (aH ?_)
 refine aj (qI _ (by omega)) ?_
 refine aj (kC (by kernel_rfl) (by kernel_rfl) (by omega)) ?_
 refine aj (dF _ (by omega)) ?_
 refine hJ1 _ _ ?_
 exact ⟨(congrArg (Value.int .i64) (by unfold Gs.lg; (rw [if_pos (by omega)] <;> omega))), hF⟩
 refine bu (aB ?_)
 refine ay (geq _ _ _ _) (fun h5 => ?_) (fun h5 => ?_)
 refine bD (bD ?_)
 refine ay (leq _ _ _ _) (fun h6 => ?_) (fun h6 => ?_)
 refine bu (aH ?_)
 refine aj (qI _ (by omega)) ?_
 refine aj (kC (by kernel_rfl) (by kernel_rfl) (by omega)) ?_
 refine aj (dF _ (by omega)) ?_
 refine hJ1 _ _ ?_
 exact ⟨(congrArg (Value.int .i64) (by unfold Gs.lg; (rw [if_pos (by omega)] <;> omega))), hF⟩
 refine bu (aB ?_)
 refine ay (geq _ _ _ _) (fun h7 => ?_) (fun h7 => ?_)
 refine bD (bD ?_)
 refine ay (leq _ _ _ _) (fun h8 => ?_) (fun h8 => ?_)
 refine bu (aH ?_)
 refine aj (qI _ (by omega)) ?_
 refine aj (kC (by kernel_rfl) (by kernel_rfl) (by omega)) ?_
 refine aj (dF _ (by omega)) ?_
 refine hJ1 _ _ ?_
 exact ⟨(congrArg (Value.int .i64) (by unfold Gs.lg; (rw [if_pos (by omega)] <;> omega))), hF⟩
 refine bu (aB ?_)
 refine hJ1 _ _ ?_
 exact ⟨(congrArg (Value.int .i64) (by unfold Gs.lg; (rw [if_neg (by omega), if_neg (by omega), if_neg (by omega), if_neg (by omega)]))), hF⟩
 refine bf (bf (bG (aB ?_)))
 refine hJ1 _ _ ?_
 exact ⟨(congrArg (Value.int .i64) (by unfold Gs.lg; (rw [if_pos (by omega)] <;> omega))), hF⟩
 refine bf (bf (bG (aB ?_)))
 refine ay (geq _ _ _ _) (fun h9 => ?_) (fun h9 => ?_)
 refine bD (bD ?_)
 refine ay (leq _ _ _ _) (fun h10 => ?_) (fun h10 => ?_)
 refine bu (aH ?_)
 refine aj (qI _ (by omega)) ?_
 refine aj (kC (by kernel_rfl) (by kernel_rfl) (by omega)) ?_
 refine aj (dF _ (by omega)) ?_
 refine hJ1 _ _ ?_
 exact ⟨(congrArg (Value.int .i64) (by unfold Gs.lg; (rw [if_pos (by omega)] <;> omega))), hF⟩
 refine bu (aB ?_)
 refine hJ1 _ _ ?_
 exact ⟨(congrArg (Value.int .i64) (by unfold Gs.lg; (rw [if_pos (by omega)] <;> omega))), hF⟩
 refine bf (bf (bG (aB ?_)))
 refine hJ1 _ _ ?_
 exact ⟨(congrArg (Value.int .i64) (by unfold Gs.lg; (rw [if_pos (by omega)] <;> omega))), hF⟩
 refine bf (bf (bG (aB ?_)))
 refine ay (geq _ _ _ _) (fun h11 => ?_) (fun h11 => ?_)
 refine bD (bD ?_)
 refine ay (leq _ _ _ _) (fun h12 => ?_) (fun h12 => ?_)
 refine bu (aH ?_)
 refine aj (qI _ (by omega)) ?_
 refine aj (kC (by kernel_rfl) (by kernel_rfl) (by omega)) ?_
 refine aj (dF _ (by omega)) ?_
 refine hJ1 _ _ ?_
 exact ⟨(congrArg (Value.int .i64) (by unfold Gs.lg; (rw [if_pos (by omega)] <;> omega))), hF⟩
 refine bu (aB ?_)
 refine ay (geq _ _ _ _) (fun h13 => ?_) (fun h13 => ?_)
 refine bD (bD ?_)
 refine ay (leq _ _ _ _) (fun h14 => ?_) (fun h14 => ?_)
 refine bu (aH ?_)
 refine aj (qI _ (by omega)) ?_
 refine aj (kC (by kernel_rfl) (by kernel_rfl) (by omega)) ?_
 refine aj (dF _ (by omega)) ?_
 refine hJ1 _ _ ?_
 exact ⟨(congrArg (Value.int .i64) (by unfold Gs.lg; (rw [if_pos (by omega)] <;> omega))), hF⟩
 refine bu (aB ?_)
 refine hJ1 _ _ ?_
 exact ⟨(congrArg (Value.int .i64) (by unfold Gs.lg; (rw [if_pos (by omega)] <;> omega))), hF⟩
 refine bf (bf (bG (aB ?_)))
 refine hJ1 _ _ ?_
 exact ⟨(congrArg (Value.int .i64) (by unfold Gs.lg; (rw [if_pos (by omega)] <;> omega))), hF⟩
 refine bf (bf (bG (aB ?_)))
 refine ay (geq _ _ _ _) (fun h15 => ?_) (fun h15 => ?_)
 refine bD (bD ?_)
 refine ay (leq _ _ _ _) (fun h16 => ?_) (fun h16 => ?_)
 refine bu (aH ?_)
 refine aj (qI _ (by omega)) ?_
 refine aj (kC (by kernel_rfl) (by kernel_rfl) (by omega)) ?_
 refine aj (dF _ (by omega)) ?_
 refine hJ1 _ _ ?_
 exact ⟨(congrArg (Value.int .i64) (by unfold Gs.lg; (rw [if_pos (by omega)] <;> omega))), hF⟩
 refine bu (aB ?_)
 refine hJ1 _ _ ?_
 exact ⟨(congrArg (Value.int .i64) (by unfold Gs.lg; (rw [if_pos (by omega)] <;> omega))), hF⟩
 refine bf (bf (bG (aB ?_)))
 refine hJ1 _ _ ?_
 exact ⟨(congrArg (Value.int .i64) (by unfold Gs.lg; (rw [if_pos (by omega)] <;> omega))), hF⟩
 refine bf (bf (bG (aB ?_)))
 refine ay (geq _ _ _ _) (fun h17 => ?_) (fun h17 => ?_)
 refine bD (bD ?_)
 refine ay (leq _ _ _ _) (fun h18 => ?_) (fun h18 => ?_)
 refine bu (aH ?_)
 refine aj (qI _ (by omega)) ?_
 refine aj (kC (by kernel_rfl) (by kernel_rfl) (by omega)) ?_
 refine aj (dF _ (by omega)) ?_
 refine hJ1 _ _ ?_
 exact ⟨(congrArg (Value.int .i64) (by unfold Gs.lg; (rw [if_neg (by omega), if_pos (by omega)] <;> omega))), hF⟩
 refine bu (aB ?_)
 refine ay (geq _ _ _ _) (fun h19 => ?_) (fun h19 => ?_)
 refine bD (bD ?_)
 refine ay (leq _ _ _ _) (fun h20 => ?_) (fun h20 => ?_)
 refine bu (aH ?_)
 refine aj (qI _ (by omega)) ?_
 refine aj (kC (by kernel_rfl) (by kernel_rfl) (by omega)) ?_
 refine aj (dF _ (by omega)) ?_
 refine hJ1 _ _ ?_
 exact ⟨(congrArg (Value.int .i64) (by unfold Gs.lg; (rw [if_neg (by omega), if_neg (by omega), if_pos (by omega)] <;> omega))), hF⟩
 refine bu (aB ?_)
 refine ay (geq _ _ _ _) (fun h21 => ?_) (fun h21 => ?_)
 refine bD (bD ?_)
 refine ay (leq _ _ _ _) (fun h22 => ?_) (fun h22 => ?_)
 refine bu (aH ?_)
 refine aj (qI _ (by omega)) ?_
 refine aj (kC (by kernel_rfl) (by kernel_rfl) (by omega)) ?_
 refine aj (dF _ (by omega)) ?_
 refine hJ1 _ _ ?_
 exact ⟨(congrArg (Value.int .i64) (by unfold Gs.lg; (rw [if_pos (by omega)] <;> omega))), hF⟩
 refine bu (aB ?_)
 refine hJ1 _ _ ?_
 exact ⟨(congrArg (Value.int .i64) (by unfold Gs.lg; (rw [if_neg (by omega), if_neg (by omega), if_neg (by omega), if_neg (by omega)]))), hF⟩
 refine bf (bf (bG (aB ?_)))
 refine hJ1 _ _ ?_
 exact ⟨(congrArg (Value.int .i64) (by unfold Gs.lg; (rw [if_pos (by omega)] <;> omega))), hF⟩
 refine bf (bf (bG (aB ?_)))
 refine ay (geq _ _ _ _) (fun h23 => ?_) (fun h23 => ?_)
 refine bD (bD ?_)
 refine ay (leq _ _ _ _) (fun h24 => ?_) (fun h24 => ?_)
 refine bu (aH ?_)
 refine aj (qI _ (by omega)) ?_
 refine aj (kC (by kernel_rfl) (by kernel_rfl) (by omega)) ?_
 refine aj (dF _ (by omega)) ?_
 refine hJ1 _ _ ?_
 exact ⟨(congrArg (Value.int .i64) (by unfold Gs.lg; (rw [if_pos (by omega)] <;> omega))), hF⟩
 refine bu (aB ?_)
 refine hJ1 _ _ ?_
 exact ⟨(congrArg (Value.int .i64) (by unfold Gs.lg; (rw [if_neg (by omega), if_neg (by omega), if_neg (by omega), if_neg (by omega)]))), hF⟩
 refine bf (bf (bG (aB ?_)))
 refine hJ1 _ _ ?_
 exact ⟨(congrArg (Value.int .i64) (by unfold Gs.lg; (rw [if_pos (by omega)] <;> omega))), hF⟩
 refine bf (bf (bG (aB ?_)))
 refine ay (geq _ _ _ _) (fun h25 => ?_) (fun h25 => ?_)
 refine bD (bD ?_)
 refine ay (leq _ _ _ _) (fun h26 => ?_) (fun h26 => ?_)
 refine bu (aH ?_)
 refine aj (qI _ (by omega)) ?_
 refine aj (kC (by kernel_rfl) (by kernel_rfl) (by omega)) ?_
 refine aj (dF _ (by omega)) ?_
 refine hJ1 _ _ ?_
 exact ⟨(congrArg (Value.int .i64) (by unfold Gs.lg; (rw [if_pos (by omega)] <;> omega))), hF⟩
 refine bu (aB ?_)
 refine ay (geq _ _ _ _) (fun h27 => ?_) (fun h27 => ?_)
 refine bD (bD ?_)
 refine ay (leq _ _ _ _) (fun h28 => ?_) (fun h28 => ?_)
 refine bu (aH ?_)
 refine aj (qI _ (by omega)) ?_
 refine aj (kC (by kernel_rfl) (by kernel_rfl) (by omega)) ?_
 refine aj (dF _ (by omega)) ?_
 refine hJ1 _ _ ?_
 exact ⟨(congrArg (Value.int .i64) (by unfold Gs.lg; (rw [if_pos (by omega)] <;> omega))), hF⟩
 refine bu (aB ?_)
 refine hJ1 _ _ ?_
 exact ⟨(congrArg (Value.int .i64) (by unfold Gs.lg; (rw [if_pos (by omega)] <;> omega))), hF⟩
 refine bf (bf (bG (aB ?_)))
 refine hJ1 _ _ ?_
 exact ⟨(congrArg (Value.int .i64) (by unfold Gs.lg; (rw [if_pos (by omega)] <;> omega))), hF⟩
 refine bf (bf (bG (aB ?_)))
 refine ay (geq _ _ _ _) (fun h29 => ?_) (fun h29 => ?_)
 refine bD (bD ?_)
 refine ay (leq _ _ _ _) (fun h30 => ?_) (fun h30 => ?_)
 refine bu (aH ?_)
 refine aj (qI _ (by omega)) ?_
 refine aj (kC (by kernel_rfl) (by kernel_rfl) (by omega)) ?_
 refine aj (dF _ (by omega)) ?_
 refine hJ1 _ _ ?_
 exact ⟨(congrArg (Value.int .i64) (by unfold Gs.lg; (rw [if_neg (by omega), if_neg (by omega), if_neg (by omega), if_pos (by omega)] <;> omega))), hF⟩
 refine bu (aB ?_)
 refine hJ1 _ _ ?_
 exact ⟨(congrArg (Value.int .i64) (by unfold Gs.lg; (rw [if_neg (by omega), if_neg (by omega), if_neg (by omega), if_neg (by omega)]))), hF⟩
 refine bf (bf (bG (aB ?_)))
 refine hJ1 _ _ ?_
 exact ⟨(congrArg (Value.int .i64) (by unfold Gs.lg; (rw [if_neg (by omega), if_neg (by omega), if_neg (by omega), if_neg (by omega)]))), hF⟩
 obtain ⟨g3, hF⟩ := hI
 rw [g3]
 exact ⟨rfl, hF⟩
theorem Cf {b : Int} {w : World} :
    oX 41 #[Z.u b] w fun e w' => e = .returned (.string (Gs.zg b)) ∧ az no w w' := by
 refine F41.calls ?_
 unfold F41
 have hF : az no w w := Fr.refl _ _ _
 refine ay (dC _ _ _ _ _) (fun h1 => ?_) (fun h1 => ?_)
 refine aH ?_
 exact ⟨congrArg (fun r => Ending.returned (.string r)) (by unfold Gs.zg; rw [if_pos (by omega)]), hF⟩
 refine aB ?_
 refine ay (dC _ _ _ _ _) (fun h3 => ?_) (fun h3 => ?_)
 refine aH ?_
 exact ⟨congrArg (fun r => Ending.returned (.string r)) (by unfold Gs.zg; rw [if_neg (by omega), if_pos (by omega)]), hF⟩
 refine aB ?_
 refine ay (dC _ _ _ _ _) (fun h5 => ?_) (fun h5 => ?_)
 refine aH ?_
 exact ⟨congrArg (fun r => Ending.returned (.string r)) (by unfold Gs.zg; rw [if_neg (by omega), if_neg (by omega), if_pos (by omega)]), hF⟩
 refine aB ?_
 refine ay (dC _ _ _ _ _) (fun h7 => ?_) (fun h7 => ?_)
 refine aH ?_
 exact ⟨congrArg (fun r => Ending.returned (.string r)) (by unfold Gs.zg; rw [if_neg (by omega), if_neg (by omega), if_neg (by omega), if_pos (by omega)]), hF⟩
 refine aB ?_
 refine ay (dC _ _ _ _ _) (fun h9 => ?_) (fun h9 => ?_)
 refine aH ?_
 exact ⟨congrArg (fun r => Ending.returned (.string r)) (by unfold Gs.zg; rw [if_neg (by omega), if_neg (by omega), if_neg (by omega), if_neg (by omega), if_pos (by omega)]), hF⟩
 refine aB ?_
 exact ⟨congrArg (fun r => Ending.returned (.string r)) (by unfold Gs.zg; rw [if_neg (by omega), if_neg (by omega), if_neg (by omega), if_neg (by omega), if_neg (by omega)]), hF⟩
theorem yw {b : Int} {w : World} (hb : 0 ≤ b ∧ b ≤ 255) :
    oX 40 #[Z.u b] w fun e w' => e = .returned (.string (Gs.zh b)) ∧ az no w w' := by
 refine F40.calls ?_
 unfold F40
 have hab := Gs.Xc b
 have hF : az no w w := Fr.refl _ _ _
 refine aG (Hu hb) (fun w1 U1 => ?_)
 refine ay (gtr _ _ _ _) (fun h2 => ?_) (fun h2 => ?_)
 refine aH ?_
 refine aG (adZ (n := Gs.lg b) (by omega)) (fun w3 U3 => ?_)
 refine aj (Oz (by have h2 := Gs.VO (n := Gs.lg b) (by omega); have h3 : (⟨#[80, 70]⟩ : ByteArray).size = 2 := rfl; omega)) ?_
 replace hF := (hF.go0 U1).go0 U3
 exact ⟨congrArg (fun r => Ending.returned (.string r)) (by unfold Gs.zh; rw [if_pos (by omega)]), hF⟩
 refine aB ?_
 refine aG (Cf) (fun w6 U6 => ?_)
 replace hF := (hF.go0 U1).go0 U6
 exact ⟨congrArg (fun r => Ending.returned (.string r)) (by unfold Gs.zh; rw [if_neg (by omega)]), hF⟩
theorem MQ {b : Int} {w : World} (hb : 0 ≤ b ∧ b ≤ 255) :
    oX 127 #[.agg #[Z.i 17, Z.u b]] w fun e w' => e = .returned (.string (Gs.zh b)) ∧ az no w w' := by
 refine Y6.calls ?_
 unfold Y6
 have hF : az no w w := Fr.refl _ _ _
 refine Z.x (#[Z.i 17, Z.u b]) (fun b1 w1 e1 ah _ U1 => ?_)
 refine Z.f 0 ?_
 refine Z.l ah ?_
 refine zx (dC _ _ _ _ _) (rfl) ?_
 refine aH ?_
 refine Z.f 1 ?_
 refine Z.l ah ?_
 refine aG (yw hb) (fun w2 U2 => ?_)
 replace hF := (hF.go0 U1).go0 U2
 exact ⟨rfl, hF⟩
theorem EO {b : Int} {w : World} (hb : 0 ≤ b ∧ b ≤ 255) :
    oX 75 #[Z.u b] w fun e w' => e = .returned (.string (Gs.Dz b)) ∧ az no w w' := by
 refine F75.calls ?_
 unfold F75
 have hF : az no w w := Fr.refl _ _ _
 refine aj (bz (l := [(0, 1), (1, 1)]) (z := #[Z.i 0, Z.u 0]) (by kernel_rfl) (by (simp [eP, splice, gq, Value.cells, Gs.cv]; rfl))) ?_
 refine aG (MQ hb) (fun w1 U1 => ?_)
 refine ay (neS _ _ _ _) (fun h2 => ?_) (fun h2 => ?_)
 refine aH ?_
 replace hF := hF.go0 U1
 exact ⟨congrArg (fun r => Ending.returned (.string r)) (by unfold Gs.Dz; rw [if_neg (by assumption)]), hF⟩
 refine aB ?_
 refine dQ (S := no) (fun w4 U4 => ?_)
 refine bi (fun w' hw' => (afo _ _)) ?_
 refine bi (fun w' hw' => (afo _ _)) ?_
 refine bi (fun w' hw' => (abM _ (by omega))) ?_
 refine bi (fun w' hw' => (Xd (s := Gs.OA) (by kernel_rfl) (by omega) (by omega) (by show _ ≤ ((16 : Nat) : Int); omega))) ?_
 refine bi (fun w' hw' => (WG _ (by omega))) ?_
 refine bi (fun w' hw' => (WG _ (by omega))) ?_
 refine bi (fun w' hw' => (abM _ (by omega))) ?_
 refine bi (fun w' hw' => (Xd (s := Gs.OA) (by kernel_rfl) (by omega) (by omega) (by show _ ≤ ((16 : Nat) : Int); omega))) ?_
 refine bi (fun w' hw' => (Oz (by have := Gs.PN hb.1; omega))) ?_
 refine aF (fun w8 U8 => ?_)
 replace hF := ((hF.go0 U1).go0 U4).go0 U8
 exact ⟨congrArg (fun r => Ending.returned (.string r)) (by unfold Gs.Dz; (rw [if_pos (Classical.not_not.1 (by assumption))]; rfl)), hF⟩
end Go.Proofs.YtjdoakbadehicaaGreatDoor
end
section
namespace Gs
open Go
end Gs
end
section
namespace Gs
open Go
theorem Tc {cs : List Cell} {k : Nat} {x : pX} (h : (allM cs)[k]? = some x) : ∃ s, (bQ cs)[k]? = some s ∧ x = je cs s := by
 have hk := (List.getElem?_eq_some_iff.1 h).1
 rw [y9] at hk
 exact ⟨_, List.getElem?_eq_getElem hk, by have := EN (List.getElem?_eq_getElem hk); rw [h] at this; exact Option.some.inj this⟩
theorem Td {cs : List Cell} {k s : Nat} (h : (bQ cs)[k]? = some s) : (0 ≤ (s : Int) ∧ (s : Int) < cs.length) ∧ stB cs s = true := by
 have := rf.1 (List.mem_of_getElem? h)
 exact ⟨by omega, this.2⟩
theorem amd {cs : List Cell} {k : Nat} {x : pX} (hx : (allM cs)[k]? = some x) : (0 ≤ x.s ∧ x.s < cs.length) ∧ stB cs x.s = true := by
 obtain ⟨s, hs, rfl⟩ := Tc hx
 exact Td hs
end Gs
end
section
namespace Gs
open Go
theorem all_in {cs : List Cell} {k : Nat} {x : pX} (hx : (allM cs)[k]? = some x) : (0 ≤ x.s ∧ x.s < cs.length) ∧ 0 ≤ x.l ∧ x.l < cs.length ∧ x = je cs x.s := by
 obtain ⟨s, hs, rfl⟩ := Tc hx
 obtain ⟨h0, hst⟩ := Td hs
 obtain ⟨L, h1, h2, _⟩ := len_eq h0 hst
 refine ⟨h0, ?_, ?_, rfl⟩
 ·show 0 ≤ vK cs s; omega
 ·show vK cs s < cs.length; omega
theorem ZV {cs : List Cell} {k : Nat} {x : pX} (hx : (allM cs)[k]? = some x) : ((dZ cs.length x).length : Int) = x.l := by
 have h := all_in hx
 rw [qZ h.1]; omega
end Gs
end
section
namespace Gs
open Go
def IA (p n : Int) : List Int := match qV p n with | some (a, b) => [a, b] | none => [0, 0]
def uJ (f : pX) : Bool := decide (f.a % 2 = 1)
def eU (cs : List Cell) : List Int := (List.range cs.length).map Int.ofNat
def qM (cs : List Cell) : List (Int × List Cell) :=
 if allM cs = [] then (if pY cs (eU cs) = [] then [] else [(-1, pY cs (eU cs))])
 else ((allM cs).filter uJ).map fun f => ((f.s + 1) % cs.length, pY cs (dZ cs.length f))
def wS (cs : List Cell) (f : pX) : List Int := 17 :: IA ((f.s + 1) % cs.length) cs.length ++ lC cs (dZ cs.length f)
def allB (cs : List Cell) (cur iK : Int) : List Int := iK :: IA cur cs.length ++ (if allM cs = [] then lC cs (eU cs) else ((allM cs).filter uJ).flatMap (wS cs))
theorem TL {p : Int} {n : Nat} (h : 0 ≤ p ∧ p < n) (hn : n ≤ 4096) : qV p n = some (lY (p / 64), lY p) := by
 unfold qV
 rw [if_neg (by omega), if_neg (by omega)]
theorem Xn {p : Int} {n : Nat} (h : 0 ≤ p ∧ p < n) (hn : n ≤ 4096) : IA p n = [lY (p / 64), lY p] := by unfold IA; rw [TL h hn]
theorem Ip {cs : List Cell} {k : Nat} {f : pX} (hf : (allM cs)[k]? = some f) : ∀ i ∈ dZ cs.length f, (bJ cs i).st = false := by
 intro i hi
 obtain ⟨⟨h0, h1⟩, hl0, hl1, he⟩ := all_in hf
 obtain ⟨j, hj⟩ := List.getElem?_of_mem hi
 have hjl := (List.getElem?_eq_some_iff.1 hj).1
 rw [vH hjl] at hj
 have hpl := ZV hf
 have hlen : f.l = vK cs f.s := congrArg pX.l he
 cases hst : (bJ cs i).st with
 | false => rfl
 | true =>
  exfalso
  have hi0 := FO (show (dZ cs.length f)[j]? = some i from by rw [vH hjl, hj])
  have h2 := SX hi0 hst
  have h3 := Tf ⟨h0, h1⟩ (amd hf).2 (j := j + 1) (by omega)
  rw [Option.some.inj hj, h2] at h3
  have h4 := Option.some.inj hj
  rw [h3] at h4
  have hm := jF (f.s + ((j + 1 : Nat) : Int)) (N := cs.length) (by omega)
  by_cases hw : f.s + ((j + 1 : Nat) : Int) < cs.length
  ·rw [Int.emod_eq_of_lt (by omega) hw] at h4; omega
  ·rw [← Int.sub_emod_right, Int.emod_eq_of_lt (by omega) (by omega)] at h4; omega
theorem Bd {cs : List Cell} (h : allM cs = []) : ∀ i ∈ eU cs, (bJ cs i).st = false := by
 intro i hi
 obtain ⟨j, hj, rfl⟩ := List.mem_map.1 hi
 cases hst : (bJ cs (Int.ofNat j)).st with
 | false => rfl
 | true =>
  exfalso
  have hm : j ∈ bQ cs := rf.2 ⟨List.mem_range.1 hj, hst⟩
  have : (allM cs).length = (bQ cs).length := y9 cs
  rw [h] at this
  have h2 := List.length_pos_of_mem hm
  simp at this
  omega
theorem TM {cs : List Cell} (hn : cs.length ≤ 4096) : ∀ {l : List pX}, (∀ f ∈ l, ∃ k : Nat, (allM cs)[k]? = some f) → ∀ b, sS cs.length b (l.map fun f => ((f.s + 1) % cs.length, pY cs (dZ cs.length f))) = .ok (l.flatMap (wS cs)) := by
 intro l
 induction l with
 | nil => intro _ b; rfl
 | cons f l ih =>
  intro h b
  obtain ⟨k, hk⟩ := h f (by simp)
  obtain ⟨⟨h0, h1⟩, _⟩ := all_in hk
  have hm := jF (f.s + 1) (N := cs.length) (by omega)
  rw [List.map_cons, List.flatMap_cons]
  unfold sS Jo
  dsimp only
  rw [if_pos (.inl (by omega)), TL hm hn]
  dsimp only
  rw [JL (Ip hk)]
  dsimp only
  rw [ih (fun g hg => h g (by simp [hg])) false]
  unfold wS
  rw [Xn hm hn]
  rfl
theorem aak {cs : List Cell} {cur iK : Int} (hn : cs.length ≤ 4096) (hc : 0 ≤ cur ∧ cur < cs.length) : writeM ⟨iK, false, cur, qM cs⟩ cs.length = .ok (allB cs cur iK) ∧ aaf (qM cs) = qM cs := by
 unfold writeM allB
 dsimp only
 rw [if_neg (by decide), TL hc hn, Xn hc hn]
 dsimp only
 unfold qM
 by_cases ha : allM cs = []
 ·rw [if_pos ha, if_pos ha]
  have hs := JL (Bd ha)
  by_cases he : pY cs (eU cs) = []
  ·rw [if_pos he]
   rw [he] at hs
   have : lC cs (eU cs) = [] := by unfold vO at hs; exact (Except.ok.inj hs).symm
   rw [this]
   exact ⟨rfl, rfl⟩
  ·rw [if_neg he]
   have hi : sS cs.length true [(-1, pY cs (eU cs))] = .ok (lC cs (eU cs)) := by
    unfold sS Jo
    dsimp only
    rw [if_neg (by rintro (e | e); exact e rfl; cases e), hs]
    dsimp only
    unfold sS
    simp
   rw [hi]
   refine ⟨rfl, ?_⟩
   show (if (-1 : Int) = -1 ∧ pY cs (eU cs) = [] then [] else [(-1, pY cs (eU cs))]) = [(-1, pY cs (eU cs))]
   rw [if_neg (fun e => he e.2)]
 ·rw [if_neg ha, if_neg ha]
  have hm : ∀ f ∈ (allM cs).filter uJ, ∃ k : Nat, (allM cs)[k]? = some f := fun f hf => List.getElem?_of_mem (List.mem_filter.1 hf).1
  rw [TM hn hm true]
  refine ⟨rfl, ?_⟩
  cases hl : (allM cs).filter uJ with
  | nil => rfl
  | cons f l =>
   obtain ⟨k, hk⟩ := hm f (by rw [hl]; simp)
   obtain ⟨⟨h0, h1⟩, _⟩ := all_in hk
   have := jF (f.s + 1) (N := cs.length) (by omega)
   rw [List.map_cons]
   show (if (f.s + 1) % (cs.length : Int) = -1 ∧ pY cs (dZ cs.length f) = [] then _ else _) = _
   rw [if_neg (by omega)]
theorem acb {cs : List Cell} {cur iK : Int} (hn : cs.length ≤ 4096) (hc : 0 ≤ cur ∧ cur < cs.length) : sK (allB cs cur iK) = .ok ⟨iK, false, cur, qM cs⟩ := by
 obtain ⟨h1, h2⟩ := aak (iK := iK) hn hc
 rw [ajT h1]
 unfold aag
 rw [if_neg (by simp), h2]
end Gs
end
section
namespace Go.Sh
open Go
variable {P : Program} {R : Ending → World → Prop} {K : Value → World → Prop} {w : World}
def xE (T : Nat) (x : Int) : List PanicEntry := [{ v := .iface T (.agg #[.int .i64 x]), recovered := false }]
theorem iq {f : FuncId} {args : Array Value} {T : Nat} {D : Value → World → Prop} {E : Int → World → Prop}
  (hc : Calls P f args w fun e w' => (∃ v, e = .returned v ∧ D v w') ∨ ∃ x, e = .panicked (xE T x) ∧ E x w') (h : ∀ v w', D v w' → K v w') (hp : ∀ x w', E x w' → R (.panicked (xE T x)) w') : kU P f args w R K :=
 hc.mono fun e w' he => by
  rcases he with ⟨v, rfl, hd⟩ | ⟨x, rfl, hx⟩
  ·exact h v w' hd
  ·exact hp x w' hx
theorem xQ {t : TypeId} {v : Value} (h : R (.panicked [{ v := .iface t v, recovered := false }]) w) : aX ((Instr.panic (.iface t v)).run P w) R K := by
 have : (Instr.panic (.iface t v)).run P w = .halt (.panic (.iface t v)) w := rfl
 rw [this]; exact h
theorem xP {t : TypeId} {x : Value} (h : P.concrete t = true) : (Instr.makeInterface t x).run P w = .ok (.iface t x) w := run_makeInterface w t x h
theorem tN {t n cap : Nat} {A : Option Addr} {xs : List Int} {k k1 : IntKind} {lo : Int} (ht : yJ P t = some 1) (hr : Rd w A (vals k xs)) (hl : n = xs.length) (h0 : 0 ≤ lo) (h1 : lo ≤ n) (hc : n ≤ cap)
  (h : ∀ A', Rd w A' (vals k (xs.drop lo.toNat)) → (∀ k, fO A' k → fO A k) → K (.slice A' (n - lo.toNat) (cap - lo.toNat)) w) :
  aX ((Instr.sliceAt t (.slice A n cap) (some (.int k1 lo)) none none).run P w) R K := by
 unfold yJ at ht
 split at ht
 ·rename_i e hu
  have hel : P.elem t = e := by simp [Program.elem, hu]
  have hu' : P.underlying t = some (.slice (P.elem t)) := by rw [hel]; exact hu
  have hr1 := run_slice_l (P := P) w t A n cap hu' k1 lo h0 h1
  rw [tV (P := P) (w := w) (by rw [hel]; exact ht)] at hr1
  have hr2 := run_sliceAt_slice (P := P) w t (.slice A n cap) (some (.int k1 lo)) none none hu'
  rw [hr1] at hr2
  refine aj (v := sliced A lo.toNat n cap 1) (w' := w) hr2 (h _ ?_ ?_)
  ·subst hl
   by_cases he : cap = lo.toNat
   ·have : lo.toNat = xs.length := by omega
    left
    simp [vals, this]
   ·rw [if_neg he]
    cases A with
    | none =>
     rcases hr with hx | ⟨a, ha, _⟩
     ·have := congrArg List.length hx; rw [vals_length] at this; simp at this; subst this; left; simp [vals]
     ·cases ha
    | some a =>
     have := hr.drop lo.toNat
     rw [Nat.mul_one]
     simpa [vals, List.map_drop] using this
  ·intro k hk
   split at hk
   ·exact hk
   ·obtain ⟨a, ha, rfl⟩ := hk
    cases A with
    | none => cases ha
    | some a0 => cases ha; exact ⟨a0, rfl, by rw [add_block]⟩
 ·cases ht
def ql (T B : Nat) (w : World) (br : Nat) (bs : List Int) : Prop :=
 ∃ A c, w.heap[br]? = some (.cells #[.slice A bs.length c] T (0, 0)) ∧ Rd w A (vals .u8 bs) ∧ bs.length ≤ c ∧ Bs bs ∧ br < B ∧ (bs = [] ∨ ∀ k, fO A k → k < B ∧ k ≠ br)
theorem ql.lt {T B : Nat} {br : Nat} {bs : List Int} (h : ql T B w br bs) : br < B := by obtain ⟨A, c, _, _, _, _, h, _⟩ := h; exact h
theorem ql.bs {T B : Nat} {br : Nat} {bs : List Int} (h : ql T B w br bs) : Bs bs := by obtain ⟨A, c, _, _, _, h, _⟩ := h; exact h
theorem ql.upd {T B : Nat} {br : Nat} {bs : List Int} {S : Nat → Prop} {w' : World} (h : ql T B w br bs) (u : az S w w') (hS : ∀ k, k < B → ¬ S k) : ql T B w' br bs := by
 obtain ⟨A, c, h1, h2, h3, h4, h5, h6⟩ := h
 refine ⟨A, c, u.get h1 (hS _ h5), h2.eH u ?_, h3, h4, h5, h6⟩
 exact h6.imp (fun e => by rw [e]; rfl) (fun h k hk => hS k (h k hk).1)
theorem ql.ai {T B : Nat} {br : Nat} {bs : List Int} {w' : World} (h : ql T B w br bs) (u : az no w w') : ql T B w' br bs := h.upd u (fun _ _ h => h)
theorem ql.mono {T B B' : Nat} {br : Nat} {bs : List Int} (h : ql T B w br bs) (hB : B ≤ B') : ql T B' w br bs := by
 obtain ⟨A, c, h1, h2, h3, h4, h5, h6⟩ := h
 exact ⟨A, c, h1, h2, h3, h4, by omega, h6.imp_right fun h k hk => ⟨by have := (h k hk).1; omega, (h k hk).2⟩⟩
end Go.Sh
namespace Gs
open Go Go.Sh
structure It where
 at' : Int
 A : Option Addr
 cp : Nat
 cs : List Cell
def ie (x : It) : List Value := [.int .i64 x.at', .slice x.A x.cs.length x.cp]
theorem kH : Enc ie 2 := ⟨fun _ => rfl, fun a u hu => by
 simp only [ie, List.mem_cons, List.mem_nil_iff, or_false] at hu
 rcases hu with rfl | rfl <;> rfl, by decide⟩
def its (l : List It) : List (Int × List Cell) := l.map fun x => (x.at', x.cs)
def Cl (w : World) (l : List It) : Prop := ∀ x ∈ l, Rd w x.A (rows cv x.cs)
def qB (l : List It) (k : Nat) : Prop := ∃ x ∈ l, x.cs ≠ [] ∧ fO x.A k
def Xm (l : List It) (B : Nat) : Prop := l = [] ∨ ∀ k, qB l k → k < B
theorem Xm.ne {l : List It} {B : Nat} (h : Xm l B) {b : Nat} (hb : B ≤ b) : l = [] ∨ ∀ k, qB l k → k ≠ b := h.imp_right fun h k hk => by have := h k hk; omega
theorem Xm.mono {l : List It} {B B' : Nat} (h : Xm l B) (hb : B ≤ B') : Xm l B' := h.imp_right fun h k hk => by have := h k hk; omega
theorem amh {cs : List Cell} (h : cs ≠ []) : rows cv cs ≠ [] := fun e => by
 have := congrArg List.length e
 rw [dV jf] at this
 cases cs
 ·exact h rfl
 ·simp at this
theorem Cl.lt {w : World} {l : List It} (h : Cl w l) : Xm l w.heap.size := by
 refine .inr fun k ⟨x, hx, hne, hk⟩ => ?_
 rcases (h x hx).lt with h2 | h2
 ·exact absurd h2 (amh hne)
 ·exact h2 k hk
theorem Cl.eH {S : Nat → Prop} {w w' : World} {l : List It} (h : Cl w l) (u : az S w w') (hs : l = [] ∨ ∀ k, qB l k → ¬ S k) : Cl w' l := by
 intro x hx
 refine (h x hx).eH u ?_
 by_cases hc : x.cs = []
 ·left; rw [hc]; rfl
 ·right
  rcases hs with rfl | hs
  ·cases hx
  ·exact fun k hk => hs k ⟨x, hx, hc, hk⟩
theorem Cl.ai {w w' : World} {l : List It} (h : Cl w l) (u : az no w w') : Cl w' l := h.eH u (.inr fun _ _ => id)
theorem Cl.aA {w w' : World} {l : List It} {b : Nat} (h : Cl w l) (u : az (· = b) w w') (hs : l = [] ∨ ∀ k, qB l k → k ≠ b) : Cl w' l := h.eH u hs
theorem Cl.apart {w : World} {l : List It} (h : Cl w l) {b : Nat} (hb : b = w.heap.size) : l = [] ∨ ∀ k, qB l k → k ≠ b := h.lt.ne (by omega)
theorem Cl.get {w : World} {l : List It} (h : Cl w l) {k : Nat} {x : It} (hx : l[k]? = some x) : Rd w x.A (rows cv x.cs) := h x (List.mem_of_getElem? hx)
theorem Cl.nil (w : World) : Cl w [] := fun x hx => by cases hx
theorem Cl.snoc {w : World} {l : List It} {x : It} (h : Cl w l) (hx : Rd w x.A (rows cv x.cs)) : Cl w (l ++ [x]) := fun y hy => by
 rcases List.mem_append.1 hy with hy | hy
 ·exact h y hy
 ·rw [List.mem_singleton.1 hy]; exact hx
def Iw (l : List It) : Prop := ∀ x ∈ l, jq x.cs
theorem Iw.get {l : List It} (h : Iw l) {k : Nat} {x : It} (hx : l[k]? = some x) : jq x.cs := h x (List.mem_of_getElem? hx)
theorem EP (l : List It) : (its l).length = l.length := by simp [its]
theorem TA (l : List It) (x : It) : its (l ++ [x]) = its l ++ [(x.at', x.cs)] := by simp [its]
def fJ : List Int → Except Int (Int × List Int)
 | [] => .error 20
 | c :: r => .ok (c, r)
theorem ad4 {bs : List Int} {c : Int} (h : bs[0]? = some c) : fJ bs = .ok (c, bs.drop 1) := by
 cases bs with
 | nil => cases h
 | cons a r => cases h; rfl
theorem dU {bs r : List Int} {c : Int} (h : fJ bs = .ok (c, r)) : bs = c :: r := by
 cases bs with
 | nil => cases h
 | cons a l => cases h; rfl
theorem qJ {bs : List Int} {x : Int} (h : fJ bs = .error x) : bs = [] ∧ x = 20 := by
 cases bs with
 | nil => cases h; exact ⟨rfl, rfl⟩
 | cons a l => cases h
end Gs
namespace Gs
open Go Go.Sh
theorem abS {S' : World} {v v' : Value} {l : List It} (old : l = [] ∨ ∀ k, qB l k → ¬ aC v k) (lt : Cl S' l) (hA : ∀ k, aC v' k → aC v k ∨ S'.heap.size ≤ k) : l = [] ∨ ∀ k, qB l k → ¬ aC v' k := by
 rcases old with h | h
 ·exact .inl h
 ·rcases lt.lt with h2 | h2
  ·exact .inl h2
  ·refine .inr fun k hk ho => ?_
   rcases hA k ho with h3 | h3
   ·exact h k hk h3
   ·have := h2 k hk; omega
theorem KW {l : List It} {x : It} {k : Nat} (h : qB (l ++ [x]) k) : qB l k ∨ (x.cs ≠ [] ∧ fO x.A k) := by
 obtain ⟨y, hy, h⟩ := h
 rcases List.mem_append.1 hy with hy | hy
 ·exact .inl ⟨y, hy, h⟩
 ·rw [List.mem_singleton.1 hy] at h; exact .inr h
def rdL (w : World) (br : Nat) : Nat := match w.heap[br]? with | some (.cells cs _ _) => (match cs.toList with | Value.slice _ n _ :: _ => n | _ => 0) | _ => 0
theorem Jn {T B : Nat} {w : World} {br : Nat} {bs : List Int} (h : ql T B w br bs) : rdL w br = bs.length := by
 obtain ⟨A, c, h, _⟩ := h
 unfold rdL; rw [h]
theorem abP {l : List Int} (h : ¬ (0 : Int) < (l.length : Nat)) : l.head? = none := by
 have : l = [] := List.length_eq_zero_iff.1 (by omega)
 rw [this]; rfl
theorem Tv {l : List Int} {x : Int} (hx : l[0]? = some x) : l.head? = some x := by rw [List.head?_eq_getElem?]; exact hx
theorem Xg {l : List Int} {x : Int} (hx : l[0]? = some x) (h : x ≠ 17) : ¬ (l.head? = none ∨ l.head? = some 17) := by
 rw [Tv hx]
 rintro (e | e)
 ·cases e
 ·exact h (Option.some.inj e)
def FY (acc : List Cell) : Except Int (List Cell × List Int) → Except Int (List Cell × List Int)
 | .ok (xs, r) => .ok (acc ++ xs, r)
 | .error e => .error e
theorem ad6 (x : Except Int (List Cell × List Int)) : x = FY [] x := by cases x <;> rfl
theorem ab9 {l r : List Int} {x : Cell} (h : ¬ (l.head? = none ∨ l.head? = some 17)) (hx : uh l = .ok (x, r)) : iP l = FY [x] (iP r) := by
 conv => lhs; unfold iP
 rw [if_neg h]
 split
 ·rename_i e he; rw [hx] at he; cases he
 ·rename_i y r1 he
  rw [hx] at he
  cases he
  cases iP r <;> rfl
theorem aah {l : List Int} {e : Int} (h : ¬ (l.head? = none ∨ l.head? = some 17)) (hx : uh l = .error e) : iP l = .error e := by
 unfold iP
 rw [if_neg h]
 split
 ·rename_i e2 he; rw [hx] at he; cases he; rfl
 ·rename_i y r1 he; rw [hx] at he; cases he
theorem aai {l : List Int} (h : l.head? = none ∨ l.head? = some 17) : iP l = .ok ([], l) := by unfold iP; rw [if_pos h]
theorem abO {bs l r : List Int} {acc : List Cell} {x : Cell} (hi : iP bs = FY acc (iP l)) (h : ¬ (l.head? = none ∨ l.head? = some 17)) (hx : uh l = .ok (x, r)) : iP bs = FY (acc ++ [x]) (iP r) := by
 rw [hi, ab9 h hx]
 cases iP r <;> simp [FY]
theorem Tu {bs l : List Int} {acc : List Cell} (hi : iP bs = FY acc (iP l)) (h : l.head? = none ∨ l.head? = some 17) : iP bs = .ok (acc, l) := by
 rw [hi, aai h]; simp [FY]
theorem ad7 {bs l : List Int} {acc : List Cell} {e : Int} (hi : iP bs = FY acc (iP l)) (h : ¬ (l.head? = none ∨ l.head? = some 17)) (hx : uh l = .error e) : iP bs = .error e := by
 rw [hi, aah h hx]; rfl
theorem Z4 {r : List Int} {x : Int} (h : fJ r = .error x) : uh (8 :: r) = .error x := by
 obtain ⟨rfl, rfl⟩ := qJ h; rfl
theorem jq.snoc {l : List Cell} {x : Cell} (h : jq l) (hx : 0 ≤ x.b ∧ x.b ≤ 255) : jq (l ++ [x]) := fun y hy => by
 rcases List.mem_append.1 hy with hy | hy
 ·exact h y hy
 ·rw [List.mem_singleton.1 hy]; exact hx
theorem Iw.snoc {l : List It} {x : It} (h : Iw l) (hx : jq x.cs) : Iw (l ++ [x]) := fun y hy => by
 rcases List.mem_append.1 hy with hy | hy
 ·exact h y hy
 ·rw [List.mem_singleton.1 hy]; exact hx
def ad8 (p : Int) : Except Int (List Cell × List Int) → Except Int ((Int × List Cell) × List Int)
 | .ok (xs, r) => .ok ((p, xs), r)
 | .error e => .error e
theorem PT (r : List Int) : qg (17 :: r) = match kP r with | .error e => .error e | .ok (p, r) => (match iP r with | .error e => .error e | .ok (xs, r') => .ok ((p, xs), r')) := rfl
theorem ad9 {l r r2 : List Int} {c p : Int} (h : fJ l = .ok (c, r)) (hc : c = 17) (hp : kP r = .ok (p, r2)) : qg l = ad8 p (iP r2) := by
 rw [dU h, hc, PT, hp]
 dsimp only
 cases iP r2 <;> rfl
theorem Z7 {l r : List Int} {c e : Int} (h : fJ l = .ok (c, r)) (hc : c = 17) (hp : kP r = .error e) : qg l = .error e := by
 rw [dU h, hc, PT, hp]
theorem aea {l : List Int} {x : Int} (hx : l[0]? = some x) (h : ¬ x = 17) : qg l = ad8 (-1) (iP l) := by
 unfold qg
 rw [if_neg (by rw [Tv hx]; exact fun e => h (Option.some.inj e))]
 cases iP l <;> rfl
def FZ (acc : List (Int × List Cell)) : Except Int (List (Int × List Cell)) → Except Int (List (Int × List Cell))
 | .ok xs => .ok (acc ++ xs)
 | .error e => .error e
theorem aca {l r : List Int} {x : Int × List Cell} (h : l ≠ []) (hx : qg l = .ok (x, r)) : jh l = FZ [x] (jh r) := by
 conv => lhs; unfold jh
 rw [dif_neg h]
 split
 ·rename_i e he; rw [hx] at he; cases he
 ·rename_i y r1 he
  rw [hx] at he
  cases he
  cases jh r <;> rfl
theorem aaj {l : List Int} {e : Int} (h : l ≠ []) (hx : qg l = .error e) : jh l = .error e := by
 unfold jh
 rw [dif_neg h]
 split
 ·rename_i e2 he; rw [hx] at he; cases he; rfl
 ·rename_i y r1 he; rw [hx] at he; cases he
theorem abT {bs l r : List Int} {acc : List (Int × List Cell)} {x : Int × List Cell} (hi : jh bs = FZ acc (jh l)) (h : l ≠ []) (hx : qg l = .ok (x, r)) : jh bs = FZ (acc ++ [x]) (jh r) := by
 rw [hi, aca h hx]
 cases jh r <;> simp [FZ]
theorem aed {bs l : List Int} {acc : List (Int × List Cell)} (hi : jh bs = FZ acc (jh l)) (h : l = []) : jh bs = .ok acc := by
 rw [hi, h]; unfold jh; rw [dif_pos rfl]; simp [FZ]
theorem aec {bs l : List Int} {acc : List (Int × List Cell)} {e : Int} (hi : jh bs = FZ acc (jh l)) (h : l ≠ []) (hx : qg l = .error e) : jh bs = .error e := by
 rw [hi, aaj h hx]; rfl
theorem aeb (x : Except Int (List (Int × List Cell))) : x = FZ [] x := by cases x <;> rfl
theorem Z8 {bs r : List Int} {a : Int} (h : fJ bs = .ok (a, r)) (hr : r = []) : sK bs = .ok ⟨a, true, 0, []⟩ := by
 rw [dU h, hr]; rfl
theorem abV {bs r : List Int} {a e : Int} (h : fJ bs = .ok (a, r)) (hr : r ≠ []) (hp : kP r = .error e) : sK bs = .error e := by
 rw [dU h]
 unfold sK
 dsimp only
 rw [if_neg hr, hp]
theorem ahE {bs r r2 : List Int} {a c : Int} {xs : List (Int × List Cell)} (h : fJ bs = .ok (a, r)) (hr : r ≠ []) (hp : kP r = .ok (c, r2)) (hx : jh r2 = .ok xs) : sK bs = .ok ⟨a, false, c, xs⟩ := by
 rw [dU h]
 unfold sK
 dsimp only
 rw [if_neg hr, hp]
 dsimp only
 rw [hx]
theorem abU {bs r r2 : List Int} {a c e : Int} (h : fJ bs = .ok (a, r)) (hr : r ≠ []) (hp : kP r = .ok (c, r2)) (hx : jh r2 = .error e) : sK bs = .error e := by
 rw [dU h]
 unfold sK
 dsimp only
 rw [if_neg hr, hp]
 dsimp only
 rw [hx]
theorem ajK {bs : List Int} {e : Int} (h : fJ bs = .error e) : sK bs = .error e := by obtain ⟨rfl, rfl⟩ := qJ h; rfl
theorem ad5 {c : Int} {r : List Int} (h : fG c = false) (h8 : c ≠ 8) : uh (c :: r) = .error 21 := by
 unfold uh
 dsimp only
 rw [if_neg (by rw [h]; decide), if_pos h8]
theorem MS {bs r : List Int} {c x : Int} (h : fJ bs = .ok (c, r)) (hx : bs[0]? = some x) : c = x := by
 rw [dU h] at hx; exact Option.some.inj hx
theorem abR {l : List It} {y : It} {b n c : Nat} (h : l = [] ∨ ∀ k, qB l k → k ≠ b) (hx : ¬ aC (.slice y.A n c) b) : l ++ [y] = [] ∨ ∀ k, qB (l ++ [y]) k → k ≠ b := by
 refine .inr fun k hk e => ?_
 rcases KW hk with h2 | ⟨_, a, ea, ek⟩
 ·rcases h with rfl | h
  ·obtain ⟨x, hx, _⟩ := h2; cases hx
  ·exact h k h2 e
 ·exact hx (by rw [ea]; subst e; subst ek; rfl)
theorem Xh {l : List It} {y : It} {v : Value} {n c : Nat} (h : l = [] ∨ ∀ k, qB l k → ¬ aC v k) (hx : ∀ k, aC v k → ¬ aC (.slice y.A n c) k) : l ++ [y] = [] ∨ ∀ k, qB (l ++ [y]) k → ¬ aC v k := by
 refine .inr fun k hk ho => ?_
 rcases KW hk with h2 | ⟨_, a, ea, ek⟩
 ·rcases h with rfl | h
  ·obtain ⟨x, hx, _⟩ := h2; cases hx
  ·exact h k h2 ho
 ·exact hx k ho (by rw [ea]; subst ek; rfl)
theorem Tz {l : List It} {y : It} {B n c : Nat} {w : World} {e size : Nat} {xs : List Value} (h : ∀ k, qB l k → B ≤ k) (ho : Own B w e size (.slice y.A n c) xs) : ∀ k, qB (l ++ [y]) k → B ≤ k := fun k hk =>
 (KW hk).elim (h k) fun ⟨_, a, ea, ek⟩ => (Own.ge ho (k := k) (by rw [ea]; subst ek; rfl)).1
theorem TB {α : Type} {l : List α} (h : ¬ ((l.length : Nat) : Int) = 0) : l ≠ [] := fun e => h (by rw [e]; rfl)
theorem ahC {α : Type} {l : List α} (h : (0 : Int) < ((l.length : Nat) : Int)) : l ≠ [] := fun e => by rw [e] at h; simp at h
end Gs
namespace Go.Sh
open Go
theorem ahI {r : Result Unit} {K : Value → World → Prop} (h : sQ r (fun _ _ => False) K) : ∃ w', r = .ok () w' ∧ K undef w' := by
 cases r with
 | ok u w' => exact ⟨w', rfl, h⟩
 | halt s w' => cases s <;> exact h.elim
theorem Rx {P : Program} {w : World} {t n : Nat} {v : Value} {b : Nat} {T : TypeId} {cs : Array Value} (hn : aU P t = some n) (hv : v.cells.size = n) (h1 : v.cells.all (·.oneCell') = true) (hb : w.heap[b]? = some (.cells cs T (0, 0))) (hl : cs.size = n) :
  ∃ w', (Instr.storeAt t (.pointer (some ⟨b, 0, none⟩)) v).run P w = .ok () w' ∧ w'.heap[b]? = some (.cells v.cells T (0, 0)) ∧ az (· = b) w w' :=
 ahI (K := fun _ w' => w'.heap[b]? = some (.cells v.cells T (0, 0)) ∧ az (· = b) w w') (gQ (o := 0) (cs' := v.cells) hn hv h1 hb (by omega) (by
  have h2 : cs.toList.drop (0 + n) = [] := List.drop_eq_nil_of_le (by simp; omega)
  rw [h2]; simp) (fun w' a _ c => ⟨a, c⟩))
end Go.Sh
end
section
namespace Go.Sh
open Go
theorem uK.mono {A : Option Addr} {xs : List Value} {B B' : Nat} (h : uK A xs B') (hb : B ≤ B') : uK A xs B := h.imp_right fun h k hk => by have := h k hk; omega
end Go.Sh
namespace Gs
open Go Go.Sh
def PP (l : List It) (B : Nat) : Prop := l = [] ∨ ∀ k, qB l k → B ≤ k
theorem PP.ne {l : List It} {B b : Nat} (h : PP l B) (hb : b < B) : l = [] ∨ ∀ k, qB l k → k ≠ b := h.imp_right fun h k hk => by have := h k hk; omega
theorem PP.mono {l : List It} {B B' : Nat} (h : PP l B') (hb : B ≤ B') : PP l B := h.imp_right fun h k hk => by have := h k hk; omega
end Gs
namespace Go.Sh
open Go
variable {P : Program} {R : Ending → World → Prop} {K : Value → World → Prop} {w : World}
end Go.Sh
namespace Gs
open Go Go.Sh
end Gs
namespace Gs
open Go Go.Sh
end Gs
namespace Gs
open Go Go.Sh
end Gs
end
section
namespace Gs
open Go
theorem Nb (p n : Int) : IA p n = [(mD p n).1, (mD p n).2.1] := by
 unfold IA mD
 cases h : qV p n with
 | none => rfl
 | some x => obtain ⟨a, b⟩ := x; rfl
theorem TN (p n : Int) : (IA p n).length = 2 := by rw [Nb]; rfl
theorem ael {c : Cell} (h : c.ge = true) (h2 : c.b < 64) : nP c = [8, 64] := by unfold nP; rw [if_pos h, if_pos h2]
theorem aem {c : Cell} (h : c.ge = true) (h2 : ¬ c.b < 64) : nP c = [8, c.b] := by unfold nP; rw [if_pos h, if_neg h2]
theorem TP {c : Cell} (h : c.ge = false) (h2 : ¬ fG c.b = true) : nP c = [64] := by unfold nP; rw [if_neg (by rw [h]; decide), if_neg h2]
theorem TQ {c : Cell} (h : c.ge = false) (h2 : fG c.b = true) : nP c = [c.b] := by unfold nP; rw [if_neg (by rw [h]; decide), if_pos h2]
theorem IB (c : Cell) : (nP c).length ≤ 2 := by
 unfold nP
 repeat' split
 all_goals simp
theorem ahJ {c : Cell} (h : c.b = 0) : (!c.ge) = jT c := by unfold jT; rw [decide_eq_true h]; rfl
theorem ahK {c : Cell} (h : ¬ c.b = 0) : false = jT c := by unfold jT; rw [decide_eq_false h]; rfl
theorem ahL {b : Int} (h : ¬ zg b = ⟨#[]⟩) : decide (¬ b = 125) = decide (b = 109 ∨ b = 108 ∨ b = 110 ∨ b = 107) := by
 refine decide_eq_decide.2 ⟨fun h2 => ?_, fun h2 => by omega⟩
 unfold zg at h
 repeat' split at h
 all_goals first | omega | exact absurd rfl h
theorem ahM {b : Int} (h : ¬ ¬ zg b = ⟨#[]⟩) : false = decide (b = 109 ∨ b = 108 ∨ b = 110 ∨ b = 107) := by
 have h := Classical.not_not.1 h
 refine (decide_eq_false fun h2 => ?_).symm
 unfold zg at h
 repeat' split at h
 all_goals first | omega | exact absurd h (by decide)
theorem PU (cs : List Cell) (l m : List Int) : lC cs (l ++ m) = lC cs l ++ lC cs m := by unfold lC; rw [List.map_append, List.filter_append, List.flatMap_append]
theorem acd {cs : List Cell} {l : List Int} {k : Nat} {x : Int} (hx : l[k]? = some x) (h : jT (bJ cs x) = true) : lC cs (l.take k) = lC cs (l.take (k + 1)) := by
 rw [← nV hx, PU]
 unfold lC; simp [h]
theorem ace {cs : List Cell} {l : List Int} {k : Nat} {x : Int} (hx : l[k]? = some x) (h : jT (bJ cs x) = false) : lC cs (l.take k) ++ nP (bJ cs x) = lC cs (l.take (k + 1)) := by
 rw [← nV hx, PU]
 unfold lC; simp [h]
theorem DJ {α : Type} {f : α → List Int} {b : Nat} (hf : ∀ x, (f x).length ≤ b) : ∀ l : List α, (l.flatMap f).length ≤ b * l.length
 | [] => by simp
 | x :: l => by
  rw [List.flatMap_cons, List.length_append, List.length_cons, Nat.mul_add, Nat.mul_one]
  have := DJ hf l
  have := hf x
  omega
theorem zk (cs : List Cell) (l : List Int) : (lC cs l).length ≤ 2 * l.length := by
 unfold lC
 refine Nat.le_trans (DJ IB _) ?_
 have := List.length_filter_le (fun c => !jT c) (l.map (bJ cs))
 rw [List.length_map] at this
 omega
theorem Nc (cs : List Cell) (l : List Int) : (pY cs l).length ≤ l.length := by
 unfold pY
 rw [List.length_map]
 have := List.length_filter_le (fun c => !jT c) (l.map (bJ cs))
 rwa [List.length_map] at this
theorem rV (cs : List Cell) : (eU cs).length = cs.length := by simp [eU]
theorem yz {cs : List Cell} {k : Nat} (h : k < cs.length) : (eU cs)[k]? = some (k : Int) := by simp [eU, h]
theorem ahN {cs : List Cell} {k : Nat} (hk : k < cs.length) (h : jT (bJ cs k) = true) : lC cs ((eU cs).take k) = lC cs ((eU cs).take (k + 1)) := acd (yz hk) h
theorem ahO {cs : List Cell} {k : Nat} (hk : k < cs.length) (h : jT (bJ cs k) = false) : lC cs ((eU cs).take k) ++ nP (bJ cs k) = lC cs ((eU cs).take (k + 1)) := ace (yz hk) h
def wH (cs : List Cell) (k : Nat) : List Int := (((allM cs).take k).filter uJ).flatMap (wS cs)
def Be (cs : List Cell) (f : pX) : List Int := 17 :: IA ((f.s + 1) % cs.length) cs.length
theorem OE (cs : List Cell) (f : pX) : Be cs f = [17] ++ [(mD ((f.s + 1) % cs.length) cs.length).1, (mD ((f.s + 1) % cs.length) cs.length).2.1] := by unfold Be; rw [Nb]; rfl
theorem DK (cs : List Cell) (f : pX) : wS cs f = Be cs f ++ lC cs (dZ cs.length f) := by unfold wS Be; rfl
theorem ajV {cs : List Cell} {k s : Nat} (hx : (bQ cs)[k]? = some s) (h : (je cs s).a % 2 = 1) : wH cs k ++ (Be cs (je cs s) ++ lC cs (dZ cs.length (je cs s))) = wH cs (k + 1) := by
 unfold wH
 rw [← nV (EN hx), List.filter_append, List.flatMap_append]
 have : uJ (je cs s) = true := decide_eq_true h
 simp [this, DK]
theorem ajW {cs : List Cell} {k s : Nat} (hx : (bQ cs)[k]? = some s) (h : ¬ (je cs s).a % 2 = 1) : wH cs k = wH cs (k + 1) := by
 unfold wH
 rw [← nV (EN hx), List.filter_append, List.flatMap_append]
 have : uJ (je cs s) = false := decide_eq_false h
 simp [this]
theorem aal {cs : List Cell} (h : cs.length ≤ 4096) (f : pX) : (wS cs f).length ≤ 8200 := by
 rw [DK]
 unfold Be
 have h1 := zk cs (dZ cs.length f)
 have h2 := xJ cs.length f
 simp only [List.length_append, List.length_cons, TN]
 omega
theorem TR {cs : List Cell} (h : cs.length ≤ 4096) (k : Nat) : (wH cs k).length ≤ 8200 * k := by
 unfold wH
 refine Nat.le_trans (DJ (aal h) _) ?_
 have h1 := List.length_filter_le uJ ((allM cs).take k)
 rw [List.length_take] at h1
 exact Nat.mul_le_mul_left _ (by omega)
theorem TS (cs : List Cell) : wH cs (bQ cs).length = ((allM cs).filter uJ).flatMap (wS cs) := by
 unfold wH
 rw [List.take_of_length_le (by rw [y9]; exact Nat.le_refl _)]
theorem agF {cs : List Cell} (hp : 0 < cs.length) (h : 0 ≤ kT cs 0 1) : allM cs ≠ [] := by
 obtain ⟨k, _, h1, h2⟩ := Iq (cs := cs) (at' := 0) (step := 1) ⟨by omega, by omega⟩ (by omega)
 intro e
 have hb := jF (0 + (k : Int) * 1) hp
 rw [h1] at h2
 have hm : (0 + (k : Int) * 1) % cs.length ∈ qx cs := Ee.2 ⟨hb, h2.1⟩
 have : allM cs = (qx cs).map (je cs) := rfl
 rw [this] at e
 rw [List.map_eq_nil_iff.1 e] at hm
 cases hm
theorem aam {cs : List Cell} (hp : 0 < cs.length) (h : ¬ 0 ≤ kT cs 0 1) : allM cs = [] := by
 have := He (cs := cs) (at' := 0) ⟨by omega, by omega⟩ (by omega)
 unfold allM
 rw [List.map_eq_nil_iff]
 cases hs : qx cs with
 | nil => rfl
 | cons s l =>
  exfalso
  obtain ⟨h1, h2⟩ := Ee.1 (show s ∈ qx cs by rw [hs]; simp)
  rw [this s h1] at h2
  cases h2
theorem TT {cs : List Cell} {cur iK : Int} (h : allM cs ≠ []) : [iK] ++ [(mD cur cs.length).1, (mD cur cs.length).2.1] ++ wH cs (bQ cs).length = allB cs cur iK := by
 unfold allB
 rw [if_neg h, Nb, TS]; rfl
theorem TU {cs : List Cell} {cur iK : Int} (h : allM cs = []) : [iK] ++ [(mD cur cs.length).1, (mD cur cs.length).2.1] ++ lC cs (eU cs) = allB cs cur iK := by
 unfold allB
 rw [if_pos h, Nb]; rfl
theorem acf {cs : List Cell} (h : cs.length ≤ 4096) : (wH cs (bQ cs).length).length ≤ 33587200 := by
 have h1 := TR h (bQ cs).length
 have h2 := pR cs
 have : 8200 * (bQ cs).length ≤ 8200 * 4096 := Nat.mul_le_mul_left _ (by omega)
 omega
def readB (cs : List Cell) (cur iK : Int) : List Int := if iK = 109 ∨ iK = 108 ∨ iK = 110 ∨ iK = 107 then [iK] else allB cs cur iK
theorem ahP {cs : List Cell} {cur iK : Int} (h : iK = 109 ∨ iK = 108 ∨ iK = 110 ∨ iK = 107) : readB cs cur iK = [iK] := if_pos h
theorem ahQ {cs : List Cell} {cur iK : Int} (h : ¬ (iK = 109 ∨ iK = 108 ∨ iK = 110 ∨ iK = 107)) : readB cs cur iK = allB cs cur iK := if_neg h
end Gs
namespace Go.Sh
open Go
theorem aen {P : Program} {w : World} {t n m b : Nat} (hn : (match P.underlying t with | some (.array n e) => (aU P e).map (n, ·) | _ => none) = some (n, m)) :
  (Instr.sliceAt t (.pointer (some ⟨b, 0, none⟩)) none none none).run P w = .ok (.slice (some ⟨b, 0, none⟩) n n) w := by
 split at hn
 ·rename_i n' e hu
  cases hc : aU P e with
  | none => rw [hc] at hn; cases hn
  | some s =>
   rw [hc] at hn
   obtain ⟨rfl, rfl⟩ : n' = n ∧ s = m := by simpa using hn
   have hl : P.arrayLen t = n' := by simp [Program.arrayLen, hu]
   have he : P.elem t = e := by simp [Program.elem, hu]
   have hu' : P.underlying t = some (.array (P.arrayLen t) (P.elem t)) := by rw [hl, he]; exact hu
   rw [run_sliceAt_array_all w t ⟨b, 0, none⟩ hu', tV (P := P) (w := w) (by rw [he]; exact hc)]
   simp only [Result.andThen, slicedAt, hl, Nat.zero_mul, Nat.sub_zero]
   by_cases h0 : n' = 0
   ·subst h0; rfl
   ·rw [if_neg h0]
    have : (⟨b, 0, none⟩ : Addr).add 0 = ⟨b, 0, none⟩ := by unfold Addr.add; split <;> simp_all
    rw [this]
 ·cases hn
end Go.Sh
end
section
namespace Gs
open Go Go.Sh
def PS (p : Int) : ByteArray := if p = -1 then ⟨#[42]⟩ else yu p
def Na (page : Int) (c : Cell) : List UInt8 := (Utf8.encode (uS page c)).data.toList
def aes (p : Int) : ByteArray := ⟨#[32]⟩ ++ PS p ++ ⟨#[61]⟩
def DF (page : Int) (x : Int × List Cell) : List UInt8 := (aes x.1).data.toList ++ x.2.flatMap (Na page)
def JK (a cur : Int) : ByteArray := Dz a ++ ⟨#[32, 64]⟩ ++ yu cur
def TD (page : Int) (i : Inb) : List UInt8 := if i.alone = true then (Dz i.iK).data.toList else (JK i.iK i.cur).data.toList ++ i.items.flatMap (DF page)
theorem ab4 {α β : Type} {f : α → List β} {l : List α} {k : Nat} {x : α} (hx : l[k]? = some x) : (l.take (k + 1)).flatMap f = (l.take k).flatMap f ++ f x := by
 rw [List.take_add_one, hx]; simp
theorem KX {α β : Type} {f : α → List β} {m : Nat} {l : List α} (h : ∀ x ∈ l, (f x).length ≤ m) : (l.flatMap f).length ≤ m * l.length := by
 induction l with
 | nil => simp
 | cons a l ih =>
  have h1 := h a (List.mem_cons_self ..)
  have h2 := ih fun x hx => h x (List.mem_cons_of_mem _ hx)
  simp only [List.flatMap_cons, List.length_append, List.length_cons, Nat.mul_add, Nat.mul_one]; omega
theorem ajQ {l : List It} {k : Nat} {x : It} (hx : l[k]? = some x) (page : Int) : (its (l.take (k + 1))).flatMap (DF page) = (its (l.take k)).flatMap (DF page) ++ ((⟨#[32]⟩ ++ PS x.at' ++ ⟨#[61]⟩ : ByteArray).data.toList ++ x.cs.flatMap (Na page)) := by
 have e : its (l.take (k + 1)) = its (l.take k) ++ [(x.at', x.cs)] := by rw [List.take_add_one, hx]; simp [its]
 rw [e]; simp [DF, aes]
theorem TG {p : Int} (h : -9223372036854775808 ≤ p ∧ p ≤ 9223372036854775807) : (PS p).size ≤ 21 := by
 unfold PS; split
 ·decide
 ·exact F5 h
theorem vN (a b : ByteArray) : (a ++ b).size = a.size + b.size := by simp
theorem DI (a : ByteArray) : a.data.toList.length = a.size := by simp
theorem Xj : (⟨#[32]⟩ : ByteArray).size = 1 := rfl
theorem Xk : (⟨#[61]⟩ : ByteArray).size = 1 := rfl
theorem PQ : (⟨#[32, 64]⟩ : ByteArray).size = 2 := rfl
theorem ajO {page : Int} {i : Inb} (h : i.alone = true) : TD page i = (Dz i.iK).data.toList := if_pos h
theorem ajR {page : Int} {i : Inb} (h : i.alone = false) : TD page i = (JK i.iK i.cur).data.toList ++ i.items.flatMap (DF page) := if_neg (by rw [h]; decide)
theorem str_eq (s : ByteArray) : s = ⟨s.data.toList.toArray⟩ := by cases s; simp
theorem OG {page : Int} {c : Cell} (h : 0 ≤ c.b ∧ c.b ≤ 255) : (Na page c).length ≤ 4 := by
 unfold Na; rw [(ajX (ack h)).1]; exact encode_le _
theorem aei {page : Int} {c : Cell} (h : 0 ≤ c.b ∧ c.b ≤ 255) : (Utf8.encode (uS page c)).size ≤ 4 := by have := OG (page := page) h; simpa [Na] using this
theorem ahG {page : Int} {xs : List Cell} {k : Nat} (h : jq xs) : ((xs.take k).flatMap (Na page)).length ≤ 4 * k := by
 have h1 := KX (f := Na page) (m := 4) (l := xs.take k) fun x hx => OG (h x (List.mem_of_mem_take hx))
 have h2 := List.length_take_le k xs
 omega
theorem aeh {a cur : Int} (ha : 0 ≤ a ∧ a ≤ 255) (hc : -9223372036854775808 ≤ cur ∧ cur ≤ 9223372036854775807) : (JK a cur).size ≤ 123 := by
 have h1 := MZ ha; have h2 := F5 hc
 unfold JK; simp only [vN, PQ]; omega
theorem ahT {page : Int} {x : It} (hp : -9223372036854775808 ≤ x.at' ∧ x.at' ≤ 9223372036854775807) (hw : jq x.cs) (hc : x.cs.length ≤ 100000) : (DF page (x.at', x.cs)).length ≤ 400023 := by
 have h1 := TG hp
 have h2 := KX (f := Na page) (m := 4) (l := x.cs) fun c hc => OG (hw c hc)
 unfold DF aes
 simp only [List.length_append, DI, vN, Xj, Xk]; omega
theorem TF {page : Int} {l : List It} (hw : Iw l) (hp : ∀ x ∈ l, -9223372036854775808 ≤ x.at' ∧ x.at' ≤ 9223372036854775807) (hc : ∀ x ∈ l, x.cs.length ≤ 100000) (k : Nat) : ((its (l.take k)).flatMap (DF page)).length ≤ 400023 * k := by
 have h1 := KX (f := DF page) (m := 400023) (l := its (l.take k)) fun y hy => by
  obtain ⟨x, hx, rfl⟩ := List.mem_map.1 hy
  have hm := List.mem_of_mem_take hx
  exact ahT (hp x hm) (hw x hm) (hc x hm)
 rw [EP] at h1
 have h2 := List.length_take_le k l
 omega
def Ap : Array Value := (Lib.pow10Tab.map fun z => Value.int .u64 z).toArray
end Gs
namespace Go.Sh
open Go
theorem ajN {P : Program} {w : World} {g : Nat} {e : TypeId} {f : Nat × Nat} (hg : P.globalNamed "internal/strconv.uint64pow10" = some g) (h : w.heap[g]? = some (.cells Gs.Ap e f)) : Lib.TabIs P w "internal/strconv.uint64pow10" .u64 Lib.pow10Tab := by
 unfold Lib.TabIs World.var?; rw [hg]; simp only [Option.bind_some, h]; rfl
theorem ajY {P : Program} {w : World} (h : Lib.TabIs P w "internal/strconv.uint64pow10" .u64 Lib.pow10Tab) : ∃ g e f, P.globalNamed "internal/strconv.uint64pow10" = some g ∧ w.heap[g]? = some (.cells Gs.Ap e f) := by
 unfold Lib.TabIs World.var? at h
 cases hg : P.globalNamed "internal/strconv.uint64pow10" with
 | none => rw [hg] at h; cases h
 | some g =>
  rw [hg] at h
  simp only [Option.bind_some] at h
  split at h
  ·rename_i cs e f hh
   cases h
   exact ⟨g, e, f, rfl, hh⟩
  ·cases h
end Go.Sh
end
section
namespace Gs
open Go
end Gs
namespace Go.Sh
open Go
theorem PE {P : Program} {R : Ending → World → Prop} {K : Value → World → Prop} {w : World} {g : FuncId} {first cap args args' : Array Value} (hb : ((P.funcs[g]?).any fun fn => fn.body.isSome && !(fn.name == "runtime.NumGoroutine")) = true) (he : first ++ args ++ cap = args') (h : kU P g args' w R K) :
  AY P (.func (.func g) first cap) args w R K := by
 subst he
 exact ⟨hb, h⟩
end Go.Sh
end
section
namespace Gs
open Go Go.Sh
end Gs
namespace Go.Sh
open Go
variable {P : Program} {R : Ending → World → Prop} {K : Value → World → Prop} {w : World}
end Go.Sh
end
section
namespace Gs
open Go Go.Sh
def yA (cs : List Cell) (cur x : Int) : Inb := if x = 109 ∨ x = 108 ∨ x = 110 ∨ x = 107 then ⟨x, true, 0, []⟩ else ⟨x, false, cur, qM cs⟩
theorem acg {cs : List Cell} {cur x : Int} (hn : cs.length ≤ 4096) (hc : 0 ≤ cur ∧ cur < cs.length) : sK (readB cs cur x) = .ok (yA cs cur x) := by
 unfold readB yA
 by_cases h : x = 109 ∨ x = 108 ∨ x = 110 ∨ x = 107
 ·rw [if_pos h, if_pos h]; rfl
 ·rw [if_neg h, if_neg h]; exact acb hn hc
theorem ach (cs : List Cell) (cur x : Int) : (yA cs cur x).iK = x := by unfold yA; split <;> rfl
theorem aeo (cs : List Cell) (cur x : Int) : (yA cs cur x).alone = decide (x = 109 ∨ x = 108 ∨ x = 110 ∨ x = 107) := by
 unfold yA; split
 ·rename_i h; exact (decide_eq_true h).symm
 ·rename_i h; exact (decide_eq_false h).symm
theorem ahR {cs : List Cell} {cur x : Int} (h : (yA cs cur x).alone = false) : (yA cs cur x).cur = cur ∧ (yA cs cur x).items = qM cs := by
 unfold yA at h ⊢
 split at h
 ·cases h
 ·rename_i h2; rw [if_neg h2]; exact ⟨rfl, rfl⟩
theorem TV (p n : Int) : Bs [(mD p n).1, (mD p n).2.1] := by
 have := ahH p n
 intro x hx
 simp at hx
 omega
theorem aep {c : Cell} (h : 0 ≤ c.b ∧ c.b ≤ 255) : Bs (nP c) := by
 unfold nP
 intro x hx
 repeat' split at hx
 all_goals (simp at hx; omega)
theorem EQ {a b : List Int} (ha : Bs a) (hb : Bs b) : Bs (a ++ b) := fun x hx => (List.mem_append.1 hx).elim (ha x) (hb x)
theorem Xo {α : Type} {f : α → List Int} {l : List α} (h : ∀ x ∈ l, Bs (f x)) : Bs (l.flatMap f) := fun y hy => by
 obtain ⟨x, hx, hy⟩ := List.mem_flatMap.1 hy
 exact h x hx y hy
theorem Xp {cs : List Cell} (hw : jq cs) (l : List Int) : Bs (lC cs l) := Xo fun x hx => by
 have := (List.mem_filter.1 hx).1
 obtain ⟨i, _, rfl⟩ := List.mem_map.1 this
 exact aep (qY hw i)
theorem aan {x : Int} (h : 0 ≤ x ∧ x ≤ 255) : Bs [x] := fun y hy => by rw [List.mem_singleton.1 hy]; exact h
theorem aci {cs : List Cell} (hw : jq cs) (f : pX) : Bs (wS cs f) := by
 rw [DK, OE]
 exact EQ (EQ (aan (by decide)) (TV _ _)) (Xp hw _)
theorem aeq {cs : List Cell} {cur x : Int} (hw : jq cs) (hx : 0 ≤ x ∧ x ≤ 255) : Bs (readB cs cur x) := by
 unfold readB
 split
 ·exact aan hx
 ·by_cases ha : allM cs = []
  ·rw [← TU ha]; exact EQ (EQ (aan hx) (TV _ _)) (Xp hw _)
  ·rw [← TT ha]; exact EQ (EQ (aan hx) (TV _ _)) (Xo fun f _ => aci hw f)
theorem VT (cs : List Cell) (f : pX) : (wS cs f).length ≤ 3 + 2 * cs.length := by
 rw [DK]
 unfold Be
 have h1 := zk cs (dZ cs.length f)
 have h2 := xJ cs.length f
 simp only [List.length_append, List.length_cons, TN]
 omega
theorem acj {cs : List Cell} {cur x : Int} (h : cs.length ≤ 120) : (readB cs cur x).length ≤ 40000 := by
 unfold readB
 split
 ·simp
 ·by_cases ha : allM cs = []
  ·rw [← TU ha]
   have := zk cs (eU cs)
   rw [rV] at this
   simp only [List.length_append, List.length_cons, List.length_nil]
   omega
  ·rw [← TT ha, TS]
   have h1 := DJ (VT cs) ((allM cs).filter uJ)
   have h2 := List.length_filter_le uJ (allM cs)
   have h3 := y9 cs
   have h4 := pR cs
   have h5 : (3 + 2 * cs.length) * ((allM cs).filter uJ).length ≤ 243 * 120 := Nat.mul_le_mul (by omega) (by omega)
   simp only [List.length_append, List.length_cons, List.length_nil]
   omega
theorem ahS {cs : List Cell} {y : Int × List Cell} (h : y ∈ qM cs) : y.2.length ≤ cs.length := by
 unfold qM at h
 split at h
 ·split at h
  ·cases h
  ·rw [List.mem_singleton.1 h]
   have := Nc cs (eU cs)
   rwa [rV] at this
 ·obtain ⟨f, _, rfl⟩ := List.mem_map.1 h
  have h1 := Nc cs (dZ cs.length f)
  have h2 := xJ cs.length f
  show (pY cs (dZ cs.length f)).length ≤ _
  omega
theorem aer (cs : List Cell) : (qM cs).length ≤ cs.length + 1 := by
 unfold qM
 split
 ·split <;> simp
 ·rw [List.length_map]
  have h2 := List.length_filter_le uJ (allM cs)
  have h3 := y9 cs
  have h4 := pR cs
  omega
end Gs
end
section
namespace Go.Sh
open Go Go.ChangeShapes Go.WideShapes Go.RowKit
def al5 : TypeDesc → Value → Prop
  | .int k, v => ∃ n, v = .int k n ∧ (Lit.int k n).wf = true
  | .bool, v => ∃ b, v = .bool b
  | .string, v => ∃ s, v = .string s ∧ s.size ≤ maxLen
  | _, _ => False
def oq : List TypeDesc → List Value → Prop
  | [], vs => vs = []
  | d :: ds, vs => ∃ v vs', vs = v :: vs' ∧ al5 d v ∧ oq ds vs'
theorem oq.len : ∀ {ds : List TypeDesc} {vs : List Value}, oq ds vs → vs.length = ds.length
  | [], _, h => by cases h; rfl
  | d :: ds, _, ⟨v, vs', h, _, h2⟩ => by subst h; simp [oq.len h2]
theorem oq.append : ∀ {ds es : List TypeDesc} {vs us : List Value}, oq ds vs → oq es us → oq (ds ++ es) (vs ++ us)
  | [], _, _, _, h, h2 => by cases h; exact h2
  | d :: ds, _, _, _, ⟨v, vs', h, h1, h3⟩, h2 => by subst h; exact ⟨v, vs' ++ _, rfl, h1, oq.append h3 h2⟩
def XZ : TypeDesc → Bool
  | .int _ | .bool | .string => true
  | _ => false
def LH (P : Program) (rec : TypeId → Option (List TypeDesc)) : List Field → List TypeDesc → Option (List TypeDesc)
  | [], acc => some acc
  | f :: fs, acc => if f.offset = acc.length then
      match rec f.type with
      | some l => if P.cellsOf f.type = l.length then LH P rec fs (acc ++ l) else none
      | none => none
    else none
def flat (P : Program) : Nat → TypeId → Option (List TypeDesc)
  | 0, _ => none
  | n + 1, t =>
    match P.underlying t with
    | some (.struct fs) => match LH P (flat P n) fs.toList [] with
      | some l => if P.cellsOf t = l.length then some l else none
      | none => none
    | some d => if XZ d then some [d] else none
    | none => none
section
variable {H : Type} {enc : TypeId × Value → H} {P : Program} {w : World} {base : Nat} {spare : Nat → Bool} {held : Bool}
theorem abd {d : TypeDesc} {t : TypeId} {fuel : Nat} {cs : List Value} {x : DataW H × List MemPlace} (ht : P.underlying t = some d) (hd : XZ d = true) (h : DataW.trod enc P w base spare held fuel t cs = some x) : oq [d] cs := by
  cases fuel with
  | zero => simp [DataW.trod] at h
  | succ fuel =>
    cases d <;> simp only [XZ, Bool.false_eq_true] at hd <;> unfold DataW.trod at h <;> rw [ht] at h <;> dsimp only at h
    all_goals
      match cs, h with
      | [], h => simp at h
      | _ :: _ :: _, h => simp at h
      | [v], h =>
        cases v <;> simp only [reduceCtorEq] at h
        first
          | exact ⟨_, [], rfl, ⟨_, rfl⟩, rfl⟩
          | (split at h
             · rename_i hc
               first
                 | (obtain ⟨rfl, hc⟩ := hc; exact ⟨_, [], rfl, ⟨_, rfl, hc⟩, rfl⟩)
                 | exact ⟨_, [], rfl, ⟨_, rfl, hc⟩, rfl⟩
             · cases h)
theorem JC {rec : TypeId → Option (List TypeDesc)} {fuel : Nat} {cs : List Value}
    (hr : ∀ t ds cs x, rec t = some ds → DataW.trod enc P w base spare held fuel t cs = some x → oq ds cs) :
    ∀ (fs : List Field) (acc ds : List TypeDesc), LH P rec fs acc = some ds → (∀ f ∈ fs, ∃ x, DataW.trod enc P w base spare held fuel f.type ((cs.drop f.offset).take (P.cellsOf f.type)) = some x) →
      oq acc (cs.take acc.length) → oq ds (cs.take ds.length)
  | [], acc, ds, h, _, h2 => by simp only [LH, Option.some.injEq] at h; subst h; exact h2
  | f :: fs, acc, ds, h, hx, h2 => by
    unfold LH at h
    split at h
    · rename_i ho
      split at h
      · rename_i l hl
        split at h
        · rename_i hc
          obtain ⟨x, h3⟩ := hx f (by simp)
          have h4 := hr _ _ _ _ hl h3
          refine JC hr fs _ ds h (fun g hg => hx g (by simp [hg])) ?_
          rw [List.length_append, List.take_add, ← ho]
          rw [ho, hc] at h4
          rw [ho]
          exact h2.append h4
        · cases h
      · cases h
    · cases h
theorem AO : ∀ (n : Nat) (fuel : Nat) (t : TypeId) (ds : List TypeDesc) (cs : List Value) (x : DataW H × List MemPlace), flat P n t = some ds → DataW.trod enc P w base spare held fuel t cs = some x → oq ds cs
  | 0, _, _, _, _, _, h, _ => by simp [flat] at h
  | n + 1, fuel, t, ds, cs, x, h, hx => by
    unfold flat at h
    split at h
    · rename_i fs hu
      split at h
      · rename_i l hl
        split at h
        · rename_i hc
          simp only [Option.some.injEq] at h
          subst h
          obtain ⟨xs, m, _, rfl, hlen, hxs, hf⟩ := DataW.trod_struct hu hx
          have key := JC (enc := enc) (w := w) (base := base) (spare := spare) (held := held) (rec := flat P n) (fuel := m) (cs := cs) (fun t ds cs x h1 h2 => AO n m t ds cs x h1 h2) fs.toList [] l hl (fun f hm => by
            obtain ⟨i, hi, rfl⟩ := List.getElem_of_mem hm
            have h5 := hf i fs.toList[i] (by rw [← Array.getElem?_toList, List.getElem?_eq_getElem hi])
            rw [List.getElem?_eq_getElem (by simp at hi; omega)] at h5
            exact ⟨_, h5⟩) rfl
          rw [← hc, ← hlen, List.take_length] at key
          exact key
        · cases h
      · cases h
    · rename_i d hd hu
      split at h
      · rename_i hl
        simp only [Option.some.injEq] at h
        subst h
        exact abd hu hl hx
      · cases h
    · cases h
theorem adx {α : Type} {f : α → List Value} {Q : α → Prop} {r : Reach} {b0 : Nat} {t : TypeId} {n : Nat} {fs : Array Field} {ds : List TypeDesc} (ht : P.underlying t = some (.struct fs)) (hfl : flat P n t = some ds) (hd : ∀ cs, oq ds cs → ∃ a, cs = f a ∧ Q a)
    {v : Value} {d : DataW H} {ps : List MemPlace} (hval : Value.okWide P w r b0 t v) (h : DataW.Trod enc P w base spare held t v d ps) : ∃ a, v = .agg (f a).toArray ∧ Q a := by
  obtain ⟨cs, rfl, _⟩ := okWide_struct ht hval
  obtain ⟨fuel, h1⟩ := h
  obtain ⟨a, h2, h3⟩ := hd _ (AO _ _ _ _ _ _ hfl h1)
  refine ⟨a, ?_, h3⟩
  rw [← h2]
  simp [Value.cells]
end
def iv (k : IntKind) (x : Int) : List Value := [.int k x]
theorem encI (k : IntKind) : Enc (iv k) 1 := ⟨fun _ => rfl, fun a u hu => by
  simp only [iv, List.mem_singleton] at hu; subst hu; rfl, by decide⟩
theorem ady (k : IntKind) : ∀ cs, oq [.int k] cs → ∃ a, cs = iv k a ∧ (Lit.int k a).wf = true := by
  rintro cs ⟨_, _, rfl, ⟨a, rfl, ha⟩, rfl⟩
  exact ⟨a, rfl, ha⟩
theorem ag3 (k : IntKind) (l : List Int) : rows (iv k) l = vals k l := by
  induction l with
  | nil => rfl
  | cons a l ih => show iv k a ++ rows (iv k) l = _; rw [ih]; rfl
end Go.Sh
end
section
namespace Gs
open Go Go.Sh
def sv (x : Int × Int) : List Value := [.int .i64 x.1, .int .i64 x.2]
theorem ac6 : ∀ cs, oq [.int .i64, .int .i64] cs → ∃ a, cs = sv a ∧ True := by
 rintro cs ⟨_, _, rfl, ⟨a, rfl, _⟩, ⟨_, _, rfl, ⟨b, rfl, _⟩, rfl⟩⟩
 exact ⟨(a, b), rfl, trivial⟩
theorem amA {n : Int} (h : (Lit.int .u8 n).wf = true) : 0 ≤ n ∧ n ≤ 255 := by
 have h1 : (decide (0 ≤ n) && decide (n ≤ 255)) = true := h
 simpa using h1
end Gs
end
section
namespace Gs
open Go
theorem Io {ps : List Cell} {a k : Int} {x : Cell} (ha : 0 ≤ a ∧ a < ps.length) (hk : 0 ≤ k ∧ k < ps.length) : bJ (jo ps a x) k = if a = k then x else bJ ps k := by
 rw [Jk x ha.1 ha.2, Tj ha hk]
theorem Lp {ps : List Cell} {a : Int} {x : Cell} (ha : 0 ≤ a ∧ a < ps.length) : bJ (jo ps a x) a = x := by rw [Io ha ha, if_pos rfl]
theorem rW {ps : List Cell} {a k : Int} {x : Cell} (ha : 0 ≤ a ∧ a < ps.length) (hk : 0 ≤ k ∧ k < ps.length) (h : k ≠ a) : bJ (jo ps a x) k = bJ ps k := by rw [Io ha hk, if_neg (Ne.symm h)]
end Gs
namespace Go.Sh
open Go
variable {P : Program} {w : World} {R : Ending → World → Prop} {K : Value → World → Prop}
end Go.Sh
end
section
namespace Gs
open Go Go.Sh
def ch (x : Int) : Cell := ⟨x, false, false, 0, 0⟩
def qw (cs : List Cell) (z : Nat) (l : List Int) : Prop :=
 cs.length = z + 3 ∧ bJ cs 0 = ⟨if l = [] then 0 else 1, false, true, 0, 0⟩ ∧ (∀ (j : Nat) x, l[j]? = some x → bJ cs ((j : Int) + 1) = ch x) ∧
  (∀ i : Int, l.length < i ∧ i ≤ z → bJ cs i = zc) ∧ bJ cs ((z : Int) + 1) = ⟨48, false, true, 0, 0⟩ ∧ bJ cs ((z : Int) + 2) = zc
section
variable {cs : List Cell} {z : Nat} {l : List Int}
theorem qw.st (h : qw cs z l) (hl : l.length ≤ z) {i : Int} (hi : 1 ≤ i ∧ i ≤ z) : stB cs i = false := by
 obtain ⟨_, _, h2, h3, _, _⟩ := h
 show (bJ cs i).st = false
 by_cases hj : i ≤ l.length
 ·obtain ⟨j, rfl⟩ : ∃ j : Nat, i = (j : Int) + 1 := ⟨(i - 1).toNat, by omega⟩
  have hjl : j < l.length := by omega
  rw [h2 j l[j] (List.getElem?_eq_getElem hjl)]; rfl
 ·rw [h3 i (by omega)]; rfl
theorem qw.st0 (h : qw cs z l) : stB cs 0 = true := by show (bJ cs 0).st = true; rw [h.2.1]
theorem qw.st1 (h : qw cs z l) : stB cs ((z : Int) + 1) = true := by show (bJ cs _).st = true; rw [h.2.2.2.2.1]
theorem qw.st2 (h : qw cs z l) : stB cs ((z : Int) + 2) = false := by show (bJ cs _).st = false; rw [h.2.2.2.2.2]; rfl
theorem qw.ao3 (h : qw cs z l) (hl : l.length ≤ z) : ug cs 0 = z + 1 := by
 have hn := h.1
 rw [abG (by omega), show ((0 : Int) + 1) % cs.length = 1 from Int.emod_eq_of_lt (by omega) (by omega)]
 have := Jl (cs := cs) (at' := 1) (step := 1) (k := z) (by omega) (fun j hj => by
  rw [show ((1 : Int) + j * 1) = j + 1 by omega, Int.emod_eq_of_lt (by omega) (by omega)]
  exact h.st hl (by omega)) (by omega) (by
  rw [show ((1 : Int) + z * 1) = z + 1 by omega, Int.emod_eq_of_lt (by omega) (by omega)]
  exact h.st1)
 rw [this, show ((1 : Int) + z * 1) = z + 1 by omega, Int.emod_eq_of_lt (by omega) (by omega)]
theorem qw.len0 (h : qw cs z l) (hl : l.length ≤ z) : vK cs 0 = z := by
 unfold vK
 rw [h.ao3 hl, if_neg (by omega)]; omega
theorem qw.at0 (h : qw cs z l) (hl : l.length ≤ z) : je cs 0 = ⟨0, z, if l = [] then 0 else 1⟩ := by
 unfold je
 rw [h.len0 hl, h.2.1]
 split <;> rfl
theorem qw.bef (h : qw cs z l) (hl : l.length ≤ z) {i : Int} (hi : 0 ≤ i ∧ i ≤ z) : iZ cs i = 0 := by
 have hn := h.1
 obtain ⟨j, rfl⟩ := Int.eq_ofNat_of_zero_le hi.1
 have := Tf (cs := cs) (s := 0) (by omega) h.st0 (j := j) (by rw [h.len0 hl]; omega)
 rwa [Int.zero_add, Int.emod_eq_of_lt (by omega) (by omega)] at this
theorem qw.of (h : qw cs z l) (hl : l.length ≤ z) {i : Int} (hi : 0 ≤ i ∧ i ≤ z) : mg cs i = ⟨0, z, if l = [] then 0 else 1⟩ ∧ mf cs i = true := by
 unfold mg mf
 rw [h.bef hl hi]
 exact ⟨by rw [if_neg (by omega), h.at0 hl], by decide⟩
theorem qw.starts (h : qw cs z l) (hl : l.length ≤ z) : bQ cs = [0, z + 1] := by
 unfold bQ
 rw [h.1, show z + 3 = (1 + z) + 2 from by omega, List.range_add, List.filter_append, List.range_add, List.filter_append]
 have e0 : (List.range 1).filter (fun i => stB cs (i : Nat)) = [0] := by
  have := h.st0
  simp [List.range_succ, this]
 have e1 : ((List.range z).map fun x => 1 + x).filter (fun i => stB cs (i : Nat)) = [] := by
  rw [List.filter_eq_nil_iff]
  intro x hx
  obtain ⟨j, hj, rfl⟩ := List.mem_map.1 hx
  have := List.mem_range.1 hj
  rw [h.st hl (i := ((1 + j : Nat) : Int)) (by omega)]
  decide
 have e2 : ((List.range 2).map fun x => 1 + z + x).filter (fun i => stB cs (i : Nat)) = [z + 1] := by
  have h1 := h.st1
  have h2 := h.st2
  have a1 : stB cs ((1 + z : Nat) : Int) = true := by rw [show ((1 + z : Nat) : Int) = z + 1 by omega]; exact h1
  have a2 : stB cs ((1 + z + 1 : Nat) : Int) = false := by rw [show ((1 + z + 1 : Nat) : Int) = z + 2 by omega]; exact h2
  rw [show List.range 2 = [0, 1] from rfl]
  simp only [List.map_cons, List.map_nil, Nat.add_zero, List.filter_cons, a1, a2, List.filter_nil]
  simp [Nat.add_comm]
 rw [e0, e1, e2]; rfl
theorem qw.all (h : qw cs z l) (hl : l.length ≤ z) : ∃ y, allM cs = [⟨0, z, if l = [] then 0 else 1⟩, ⟨z + 1, y, 48⟩] := by
 refine ⟨vK cs ((z : Int) + 1), ?_⟩
 unfold allM qx
 rw [h.starts hl]
 show [je cs 0, je cs ((z + 1 : Nat) : Int)] = _
 rw [h.at0 hl]
 congr 1
 unfold je
 rw [show ((z + 1 : Nat) : Int) = z + 1 by omega, h.2.2.2.2.1]
 rfl
theorem qw.step (h : qw cs z l) (hl : l.length < z) (x : Int) : qw (pI (jo cs ((l.length : Int) + 1) (ch x)) ((l.length : Int) + 1)) z (l ++ [x]) := by
 have hn := h.1
 have hc : (jo cs ((l.length : Int) + 1) (ch x)).length = z + 3 := by rw [mr, hn]
 -- the cell alone is no attribute: the fields are as they were
 have hst : ∀ i : Int, stB (jo cs ((l.length : Int) + 1) (ch x)) i = stB cs i := by
  intro i
  by_cases hi : 0 ≤ i ∧ i < cs.length
  ·by_cases he : i = (l.length : Int) + 1
   ·subst he
    show (bJ _ _).st = (bJ _ _).st
    rw [Lp (by omega), h.2.2.2.1 _ (by omega)]; rfl
   ·show (bJ _ _).st = (bJ _ _).st
    rw [rW (by omega) hi he]
  ·show (bJ _ _).st = (bJ _ _).st
   rw [xy hi, xy (by rw [mr]; exact hi)]
 have hb : iZ (jo cs ((l.length : Int) + 1) (ch x)) ((l.length : Int) + 1) = 0 := by
  have e : iZ (jo cs ((l.length : Int) + 1) (ch x)) ((l.length : Int) + 1) = iZ cs ((l.length : Int) + 1) := by
   unfold iZ kT AX
   rw [mr]
   simp only [hst]
  rw [e]; exact h.bef (by omega) (by omega)
 unfold pI
 rw [hb, if_neg (by omega)]
 unfold sO
 have h00 : bJ (jo cs ((l.length : Int) + 1) (ch x)) 0 = bJ cs 0 := rW (by omega) (by omega) (by omega)
 have hx0 : Ec true (bJ (jo cs ((l.length : Int) + 1) (ch x)) 0) = ⟨1, false, true, 0, 0⟩ := by
  rw [h00, h.2.1]
  unfold Ec
  rw [if_pos rfl]
  by_cases hl0 : l = []
  ·rw [if_pos hl0]; rfl
  ·rw [if_neg hl0]; rfl
 rw [hx0]
 refine ⟨by rw [mr, hc], ?_, fun j y hj => ?_, fun i hi => ?_, ?_, ?_⟩
 ·rw [Lp (by omega), if_neg (by simp)]
 ·have hjl : j < (l ++ [x]).length := (List.getElem?_eq_some_iff.1 hj).1
  simp only [List.length_append, List.length_cons, List.length_nil] at hjl
  rw [rW (by omega) (by omega) (by omega)]
  by_cases he : j = l.length
  ·subst he
   rw [List.getElem?_append_right (Nat.le_refl _)] at hj
   simp at hj
   subst hj
   rw [Lp (by omega)]
  ·rw [List.getElem?_append_left (by omega)] at hj
   rw [rW (by omega) (by omega) (by omega)]
   exact h.2.2.1 j y hj
 ·simp only [List.length_append, List.length_cons, List.length_nil] at hi
  rw [rW (by omega) (by omega) (by omega), rW (by omega) (by omega) (by omega)]
  exact h.2.2.2.1 i (by omega)
 ·rw [rW (by omega) (by omega) (by omega), rW (by omega) (by omega) (by omega)]
  exact h.2.2.2.2.1
 ·rw [rW (by omega) (by omega) (by omega), rW (by omega) (by omega) (by omega)]
  exact h.2.2.2.2.2
theorem qw.want (h : qw cs z l) (hl : l.length ≤ z) (hs : ∀ x ∈ l, 64 ≤ x) : qM cs = if l = [] then [] else [(1, l.map ch)] := by
 have hn := h.1
 obtain ⟨y, ha⟩ := h.all hl
 unfold qM
 rw [if_neg (by rw [ha]; simp), ha]
 by_cases he : l = []
 ·rw [if_pos he, if_pos he]; rfl
 ·rw [if_neg he, if_neg he]
  have o1 : uJ ⟨0, z, 1⟩ = true := rfl
  have o2 : uJ ⟨z + 1, y, 48⟩ = false := rfl
  simp only [List.filter_cons, o1, o2, List.filter_nil]
  simp only [if_true, Bool.false_eq_true, if_false, List.map_cons, List.map_nil]
  rw [show ((0 : Int) + 1) % (cs.length : Int) = 1 from Int.emod_eq_of_lt (by omega) (by omega)]
  congr 2
  -- its places are those from 1 on
  have hp : dZ cs.length ⟨0, z, 1⟩ = (List.range z).map fun k : Nat => ((k : Int) + 1) := by
   unfold dZ
   rw [if_pos (by show (0 : Int) ≤ 0 ∧ (0 : Int) < _; omega), show (min (max (z : Int) 0) (cs.length : Nat)).toNat = z by omega]
   refine List.map_congr_left fun k hk => ?_
   have := List.mem_range.1 hk
   show ((0 : Int) + (k + 1 : Nat)) % _ = _
   rw [Int.emod_eq_of_lt (by omega) (by omega)]; omega
  rw [hp]
  unfold pY
  rw [List.map_map]
  obtain ⟨m, rfl⟩ : ∃ m, z = l.length + m := ⟨z - l.length, by omega⟩
  rw [List.range_add, List.map_append, List.filter_append, List.map_append]
  have e1 : (List.range l.length).map (bJ cs ∘ fun k : Nat => ((k : Int) + 1)) = l.map ch := by
   refine List.ext_getElem? fun j => ?_
   rw [List.getElem?_map, List.getElem?_map]
   by_cases hj : j < l.length
   ·rw [List.getElem?_range hj, List.getElem?_eq_getElem hj]
    simp only [Option.map_some, Function.comp]
    rw [h.2.2.1 j l[j] (List.getElem?_eq_getElem hj)]
   ·rw [List.getElem?_eq_none (by simpa using hj), List.getElem?_eq_none (by omega)]; rfl
  have e2 : (((List.range m).map fun x => l.length + x).map (bJ cs ∘ fun k : Nat => ((k : Int) + 1))).filter (fun c => !jT c) = [] := by
   rw [List.filter_eq_nil_iff]
   intro c hc
   obtain ⟨k, hk, rfl⟩ := List.mem_map.1 hc
   obtain ⟨j, hj, rfl⟩ := List.mem_map.1 hk
   have := List.mem_range.1 hj
   simp only [Function.comp]
   rw [h.2.2.2.1 _ (by omega)]
   decide
  rw [e1, e2, List.map_nil, List.append_nil]
  have e3 : (l.map ch).filter (fun c => !jT c) = l.map ch := by
   rw [List.filter_eq_self]
   intro c hc
   obtain ⟨x, hx, rfl⟩ := List.mem_map.1 hc
   have := hs x hx
   unfold jT ch
   dsimp only
   rw [decide_eq_false (by omega)]; rfl
  rw [e3, List.map_map]
  refine List.map_congr_left fun x hx => ?_
  have := hs x hx
  unfold ru ch
  simp only [Function.comp, Bool.false_eq_true, if_false]
  rw [if_pos (by unfold fG; rw [decide_eq_true this]; rfl)]
end
theorem Ji {cs : List Cell} (h : 0 < cs.length) : 0 ≤ sD cs ∧ sD cs < cs.length := by
 unfold sD
 split
 ·exact jF _ h
 ·exact ⟨by omega, by omega⟩
theorem Mc {cs : List Cell} {i : Int} (h : kG cs i = true) : 0 ≤ i ∧ i < cs.length := by
 unfold kG at h
 split at h
 ·exact of_decide_eq_true h
 ·rename_i hb
  exact Classical.not_not.1 fun hn => hb (by unfold iZ; rw [yY hn]; decide)
end Gs
end
section
namespace Go.Proofs.YtjdoakbadehicaaGreatDoor
open Go Go.Sh
set_option maxRecDepth 100000
theorem Ed {bk : Nat} {st why tn : Int} {x0 x4 x5 : Value} {w : World} (aV : Z.h w bk #[x0, Z.i st, Z.i why, Z.i tn, x4, x5] 95) {s2 y2 : Int} :
    oX 46 #[.pointer (some ⟨bk, 1, none⟩), Z.i s2, Z.i y2] w fun e w' => ∃ v, e = .returned v ∧ ∃ t' : Int, Z.h w' bk #[x0, Z.i s2, Z.i y2, Z.i t', x4, x5] 95 ∧ az (· = bk) w w' := by
 refine F46.calls ?_
 unfold F46
 have hF : az (· = bk) w w := Fr.refl _ _ _
 refine bH (fun g w' => ∃ (t' : Int), (Z.h w' bk #[x0, Z.i st, Z.i why, Z.i t', x4, x5] 95) ∧ (az (· = bk) w w')) (fun J1 hJ1 => ?_) (fun gJ1 jX hI => ?_)
 refine dm ?_
 refine Z.f 0 ?_
 refine Z.l aV ?_
 refine ay (kL _ _ _ _ _) (fun h1 => ?_) (fun h1 => ?_)
 refine aH ?_
 refine dm ?_
 refine Z.f 2 ?_
 refine Z.l aV ?_
 refine aj (FQ _ _ _ _) ?_
 refine dm ?_
 refine Z.f 2 ?_
 refine Z.s aV (fun w2 aV _ U2 => ?_)
 replace hF := hF.go U2 (fun i _ h => h)
 refine hJ1 _ _ ?_
 exact ⟨_, aV, hF⟩
 refine aB ?_
 refine hJ1 _ _ ?_
 exact ⟨_, aV, hF⟩
 obtain ⟨t', aV, hF⟩ := hI
 refine dm ?_
 refine Z.f 0 ?_
 refine Z.s aV (fun w3 aV _ U3 => ?_)
 replace hF := hF.go U3 (fun i _ h => h)
 refine dm ?_
 refine Z.f 1 ?_
 refine Z.s aV (fun w4 aV _ U4 => ?_)
 replace hF := hF.go U4 (fun i _ h => h)
 exact ⟨_, rfl, t', aV, hF⟩
theorem zB {bk : Nat} {st why tn : Int} {x0 x4 x5 : Value} {w : World} (aV : Z.h w bk #[x0, Z.i st, Z.i why, Z.i tn, x4, x5] 95) :
    oX 17 #[.pointer (some ⟨bk, 1, none⟩)] w fun e w' => ∃ v, e = .returned v ∧ ∃ t' : Int, Z.h w' bk #[x0, Z.i 1, Z.i 0, Z.i t', x4, x5] 95 ∧ az (· = bk) w w' := by
 refine F17.calls ?_
 unfold F17
 have hF : az (· = bk) w w := Fr.refl _ _ _
 refine aJ (Ed aV (s2 := 1) (y2 := 0)) (fun v1 w1 D1 => ?_)
 obtain ⟨t3, N1, U1⟩ := D1
 replace aV := N1
 replace hF := hF.go U1 (fun i _ h => h)
 exact ⟨_, rfl, _, aV, hF⟩
theorem AV {bk : Nat} {st why tn : Int} {x0 x4 x5 : Value} {w : World} (aV : Z.h w bk #[x0, Z.i st, Z.i why, Z.i tn, x4, x5] 95) :
    oX 28 #[.pointer (some ⟨bk, 1, none⟩)] w fun e w' => e = .returned (Z.i (if st = 1 then 0 else 40)) ∧ az no w w' := by
 refine F28.calls ?_
 unfold F28
 have hF : az no w w := Fr.refl _ _ _
 refine dm ?_
 refine Z.f 0 ?_
 refine Z.l aV ?_
 refine ay (kL _ _ _ _ _) (fun h1 => ?_) (fun h1 => ?_)
 refine aH ?_
 exact ⟨congrArg (fun q => Ending.returned (Z.i q)) (if_neg (by assumption)).symm, hF⟩
 refine aB ?_
 exact ⟨congrArg (fun q => Ending.returned (Z.i q)) (if_pos (Classical.not_not.1 (by assumption))).symm, hF⟩
theorem V4 {bk : Nat} {st why tn : Int} {x0 x4 x5 : Value} {w : World} (aV : Z.h w bk #[x0, Z.i st, Z.i why, Z.i tn, x4, x5] 95) (hs : st = 1) :
    oX 83 #[.pointer (some ⟨bk, 1, none⟩)] w fun e w' => ∃ v, e = .returned v ∧ v = Z.i 0 ∧ ∃ t' : Int, Z.h w' bk #[x0, Z.i 2, Z.i 0, Z.i t', x4, x5] 95 ∧ az (· = bk) w w' := by
 refine F83.calls ?_
 unfold F83
 have hF : az (· = bk) w w := Fr.refl _ _ _
 refine aG (AV aV) (fun w1 U1 => ?_)
 rw [if_pos hs]
 refine nM (kL _ _ _ _ _) (fun h => h rfl) ?_
 refine aB ?_
 replace aV := U1.ag aV
 refine aJ (Ed aV (s2 := 2) (y2 := 0)) (fun v2 w2 D2 => ?_)
 obtain ⟨t10, N2, U2⟩ := D2
 replace aV := N2
 replace hF := hF.go0 U1
 replace hF := hF.go U2 (fun i _ h => h)
 exact ⟨_, rfl, rfl, _, aV, hF⟩
theorem zu {b : Int} {w : World} (hb : 0 ≤ b ∧ b ≤ 255) :
    oX 9 #[Z.u b] w fun e w' => e = .returned (.bool (decide (¬ Gs.zh b = ⟨#[]⟩))) ∧ az no w w' := by
 refine F9.calls ?_
 unfold F9
 have hF : az no w w := Fr.refl _ _ _
 refine aG (yw hb) (fun w1 U1 => ?_)
 refine aj (neS _ _ _ _) ?_
 replace hF := hF.go0 U1
 exact ⟨rfl, hF⟩
theorem MB {k b : Int} {w : World} (hb : 0 ≤ b ∧ b ≤ 255) :
    oX 48 #[.agg #[Z.i k, Z.u b]] w fun e w' => e = .returned (.bool (decide ((1 ≤ k ∧ k < 17) ∨ (k = 17 ∧ ¬ Gs.zh b = ⟨#[]⟩)))) ∧ az no w w' := by
 refine F48.calls ?_
 unfold F48
 have hF : az no w w := Fr.refl _ _ _
 refine Z.x (#[Z.i k, Z.u b]) (fun b1 w1 e1 ah _ U1 => ?_)
 refine Z.f 0 ?_
 refine Z.l ah ?_
 refine ay (geq _ _ _ _) (fun h2 => ?_) (fun h2 => ?_)
 refine bD ?_
 refine Z.f 0 ?_
 refine bD ?_
 refine Z.l ah ?_
 refine bD ?_
 refine ay (lss _ _ _ _) (fun h3 => ?_) (fun h3 => ?_)
 refine bu (bI (bI (bI (bI (qA (qA (qA (bI (bu ?_)))))))))
 replace hF := hF.go0 U1
 exact ⟨Kz (.inl ⟨by omega, by omega⟩), hF⟩
 refine bu (bP ?_)
 refine Z.f 0 ?_
 refine bP ?_
 refine Z.l ah ?_
 refine bP ?_
 refine ay (dC _ _ _ _ _) (fun h5 => ?_) (fun h5 => ?_)
 refine bP (bD ?_)
 refine Z.f 1 ?_
 refine bD ?_
 refine Z.l ah ?_
 refine bD ?_
 refine aG (zu hb) (fun w6 U6 => ?_)
 refine bP (bu (bG ?_))
 replace hF := (hF.go0 U1).go0 U6
 exact ⟨congrArg (fun q => Ending.returned (.bool q)) (decide_eq_decide.2 ⟨fun h => .inr ⟨by omega, h⟩, fun h => h.elim (fun h => by omega) (fun h => h.2)⟩), hF⟩
 refine bP (bf (bf (bf (bP (bG (bG ?_))))))
 replace hF := hF.go0 U1
 exact ⟨KH (fun h => h.elim (fun h => by omega) (fun h => by omega)), hF⟩
 refine bf (bf (bf (bG (bP ?_))))
 refine Z.f 0 ?_
 refine bP ?_
 refine Z.l ah ?_
 refine bP ?_
 refine ay (dC _ _ _ _ _) (fun h9 => ?_) (fun h9 => ?_)
 refine bP (bD ?_)
 refine Z.f 1 ?_
 refine bD ?_
 refine Z.l ah ?_
 refine bD ?_
 refine aG (zu hb) (fun w10 aT => ?_)
 refine bP (bu (bG ?_))
 replace hF := (hF.go0 U1).go0 aT
 exact ⟨congrArg (fun q => Ending.returned (.bool q)) (decide_eq_decide.2 ⟨fun h => .inr ⟨by omega, h⟩, fun h => h.elim (fun h => by omega) (fun h => h.2)⟩), hF⟩
 refine bP (bf (bf (bf (bP (bG (bG ?_))))))
 replace hF := hF.go0 U1
 exact ⟨KH (fun h => h.elim (fun h => by omega) (fun h => by omega)), hF⟩
theorem yU {x : Int} {w : World} (hx : 0 ≤ x ∧ x ≤ 255) :
    oX 118 #[Z.u x] w fun e w' => e = .returned (.bool (decide (x / 16 % 2 = 1))) ∧ az no w w' := by
 refine Y3.calls ?_
 unfold Y3
 have hF : az no w w := Fr.refl _ _ _
 refine aj (ag6 _ (by omega)) ?_
 refine aj (kL _ _ _ _ _) ?_
 exact ⟨yN (by omega), hF⟩
theorem kR {r c cur : Int} {A : Option Addr} {n cp bp B0 : Nat} {cs : List Gs.Cell} {w : World} (af : Z.h w bp #[Z.i r, Z.i c, .slice A n cp, Z.i cur] 91) (ae : Own B0 w 37 5 (.slice A n cp) (rows Gs.cv cs)) (hn : n = cs.length) {i j : Int} (hp : 0 < n) (hN : Gs.aU r c = n) (hb : n ≤ 4096)  :
    oX 125 #[Z.p bp, Z.i i, Z.i j] w fun e w' => e = .returned (Z.i ((i + j) % (n : Int))) ∧ az no w w' := by
 refine Y5.calls ?_
 unfold Y5
 have hF : az no w w := Fr.refl _ _ _
 refine aG (ku af ae hn) (fun w1 U1 => ?_)
 refine aG (mO (i := i) (j := j)) (fun w2 U2 => ?_)
 rw [hN, Gs.rQ (by omega)]
 replace hF := (hF.go0 U1).go0 U2
 exact ⟨rfl, hF⟩
theorem lQ {r c cur : Int} {A : Option Addr} {n cp bp B0 : Nat} {cs : List Gs.Cell} {w : World} (af : Z.h w bp #[Z.i r, Z.i c, .slice A n cp, Z.i cur] 91) (ae : Own B0 w 37 5 (.slice A n cp) (rows Gs.cv cs)) (hn : n = cs.length) {i : Int} (hi : 0 ≤ i ∧ i < cs.length) :
    oX 124 #[Z.p bp, Z.i i] w fun e w' => ∃ v, e = .returned v ∧ v = Z.i i ∧ Z.h w' bp #[Z.i r, Z.i c, .slice A n cp, Z.i i] 91 ∧ az (· = bp) w w' := by
 refine Y4.calls ?_
 unfold Y4
 have hF : az (· = bp) w w := Fr.refl _ _ _
 refine aJ (qR af ae hn (i := i)) (fun v1 w1 D1 => ?_)
 obtain ⟨rfl, N1, U1⟩ := D1
 replace af := N1
 replace hF := hF.go U1 (fun i _ h => h)
 rw [if_pos hi] at af
 exact ⟨_, rfl, rfl, af, hF⟩
theorem Vd {r c cur : Int} {A : Option Addr} {n cp bp B0 : Nat} {cs : List Gs.Cell} {w : World} (af : Z.h w bp #[Z.i r, Z.i c, .slice A n cp, Z.i cur] 91) (ae : Own B0 w 37 5 (.slice A n cp) (rows Gs.cv cs)) (hn : n = cs.length) (hp : 0 < n) (hN : Gs.aU r c = n) (hb : n ≤ 4096) (hx : (Gs.bJ cs ((cur + 1) % (n : Int))).st = false) :
    oX 74 #[Z.p bp] w fun e w' => ∃ v, e = .returned v ∧ v = Z.i ((cur + 1) % (n : Int)) ∧ Z.h w' bp #[Z.i r, Z.i c, .slice A n cp, Z.i ((cur + 1) % (n : Int))] 91 ∧ az (· = bp) w w' := by
 refine WM.calls ?_
 unfold WM
 have hnx := Gs.jF (cur + 1) (N := n) (by omega)
 have hF : az (· = bp) w w := Fr.refl _ _ _
 refine aG (gz af ae hn) (fun w1 U1 => ?_)
 replace ae := ae.ai U1
 replace af := U1.ag af
 refine aG (kR af ae hn (i := cur) (j := 1) hp hN hb) (fun w2 U2 => ?_)
 replace ae := ae.ai U2
 replace af := U2.ag af
 refine aJ (lQ af ae hn (i := ((cur + 1) % (n : Int))) (by omega)) (fun v3 w3 D3 => ?_)
 obtain ⟨rfl, N3, U3⟩ := D3
 replace ae := ae.aA U3 (Own.aP ae (by assumption) (by decide))
 replace af := N3
 replace hF := (hF.go0 U1).go0 U2
 replace hF := hF.go U3 (fun i _ h => h)
 refine aG (iI af ae hn (i := ((cur + 1) % (n : Int)))) (fun w4 U4 => ?_)
 obtain ⟨xb, xg, xl, xc, hxe⟩ : ∃ b g l c, Gs.bJ cs ((cur + 1) % (n : Int)) = ⟨b, g, false, l, c⟩ := ⟨_, _, _, _, by rw [← hx]⟩
 rw [hxe]
 refine Z.n ((Gs.cv Gs.zc).toArray) (fun b5 w5 e5 bV _ U5 => ?_)
 replace af := U4.ag af
 have lq : bp ≠ b5 := by have := au af; omega
 replace hF := hF.go0 U4
 have iF : w.heap.size ≤ b5 := by have := hF.size; omega
 refine Z.t 5 ((Gs.cv ⟨xb, xg, false, xl, xc⟩).toArray) (by (simp [Value.cells, Value.oneCell', Gs.cv, Gs.fv, Gs.ie]; done)) bV (fun w6 bV _ U6 => ?_)
 refine Z.f 2 ?_
 refine Z.l bV ?_
 refine bf (bf (bf (bG (aB ?_))))
 refine Z.f 2 ?_
 refine Z.l bV ?_
 refine aB ?_
 replace af := U6.ak (U5.ag af) lq
 replace hF := (hF.go0 U5).go1 U6 iF
 exact ⟨_, rfl, rfl, af, hF⟩
theorem QW {r c cur : Int} {A : Option Addr} {n cp bp B0 : Nat} {cs : List Gs.Cell} {w : World} (af : Z.h w bp #[Z.i r, Z.i c, .slice A n cp, Z.i cur] 91) (ae : Own B0 w 37 5 (.slice A n cp) (rows Gs.cv cs)) (hn : n = cs.length) {x : Int} (hN : Gs.aU r c = n) (hb : n ≤ 4096) (hcw : Gs.jq cs) (hof : Gs.mf cs cur = true) (hop : Gs.kG cs cur = true) (hnm : ¬ (Gs.mg cs cur).a / 16 % 2 = 1)  :
    oX 71 #[Z.p bp, Z.u x] w fun e w' => e = .returned (Z.i 0) ∧ az no w w' := by
 refine WO.calls ?_
 unfold WO
 have hF : az no w w := Fr.refl _ _ _
 refine aG (gz af ae hn) (fun w1 U1 => ?_)
 replace ae := ae.ai U1
 replace af := U1.ag af
 refine aG (tX af ae hn hN hb hcw (i := cur)) (fun w2 U2 => ?_)
 rw [hof]
 refine Z.e ?_
 refine Z.e ?_
 refine Z.n ((Gs.fv Gs.zf).toArray) (fun b3 w3 e3 aS _ U3 => ?_)
 replace af := U2.ag af
 have jO : bp ≠ b3 := by have := au af; omega
 replace ae := ae.ai U2
 have gU := ae.apart e3
 replace hF := (hF.go0 U1).go0 U2
 have jk : w.heap.size ≤ b3 := by have := hF.size; omega
 refine Z.t 3 ((Gs.fv (Gs.mg cs cur)).toArray) (by (simp [Value.cells, Value.oneCell', Gs.cv, Gs.fv, Gs.ie]; done)) aS (fun w4 aS _ U4 => ?_)
 replace ae := (ae.ai U3).aA U4 gU
 replace af := U4.ak (U3.ag af) jO
 refine aG (gz af ae hn) (fun w5 U5 => ?_)
 replace ae := ae.ai U5
 replace af := U5.ag af
 refine OV (nN af ae hn hN hb hcw (i := cur)) (hop) (fun w6 U6 => ?_)
 refine aj (lX) ?_
 refine aB (bD ?_)
 refine Z.f 2 ?_
 refine bD ?_
 replace aS := U6.ag (U5.ag aS)
 refine Z.l aS ?_
 refine bD ?_
 refine ah9 (yU (Gs.YF hcw cur)) (decide_eq_false hnm) (fun w7 U7 => ?_)
 refine bu (bf (bf (bf (bG (aB ?_)))))
 replace hF := ((((hF.go0 U3).go1 U4 jk).go0 U5).go0 U6).go0 U7
 exact ⟨rfl, hF⟩
theorem QX {r c cur : Int} {A : Option Addr} {n cp bp B0 : Nat} {cs : List Gs.Cell} {w : World} (af : Z.h w bp #[Z.i r, Z.i c, .slice A n cp, Z.i cur] 91) (ae : Own B0 w 37 5 (.slice A n cp) (rows Gs.cv cs)) (hn : n = cs.length) {x : Int} (hp : 0 < n) (hN : Gs.aU r c = n) (hb : n ≤ 4096) (hcw : Gs.jq cs) (hxb : 0 ≤ x ∧ x ≤ 255) (hof : Gs.mf cs cur = true) (hop : Gs.kG cs cur = true) (hnm : ¬ (Gs.mg cs cur).a / 16 % 2 = 1) (hx : (Gs.bJ (Gs.pI (Gs.jo cs cur ⟨x, false, false, (Gs.bJ cs cur).l, (Gs.bJ cs cur).c⟩) cur) ((cur + 1) % (n : Int))).st = false)  :
    oX 37 #[Z.p bp, Z.u x, .bool false] w fun e w' => ∃ v, e = .returned v ∧ v = Z.i 0 ∧ Z.h w' bp #[Z.i r, Z.i c, .slice A n cp, Z.i ((cur + 1) % (n : Int))] 91 ∧ Own B0 w' 37 5 (.slice A n cp) (rows Gs.cv (Gs.pI (Gs.jo cs cur ⟨x, false, false, (Gs.bJ cs cur).l, (Gs.bJ cs cur).c⟩) cur)) ∧ az (fun k => aC (.slice A n cp) k ∨ k = bp) w w' := by
 refine WP.calls ?_
 unfold WP
 have hl1 : n = (Gs.jo cs cur ⟨x, false, false, (Gs.bJ cs cur).l, (Gs.bJ cs cur).c⟩).length := by rw [Gs.mr]; exact hn
 have hw1 : Gs.jq (Gs.jo cs cur ⟨x, false, false, (Gs.bJ cs cur).l, (Gs.bJ cs cur).c⟩) := hcw.jo (show Gs.Cw ⟨x, false, false, (Gs.bJ cs cur).l, (Gs.bJ cs cur).c⟩ from hxb) _
 have hl2 : n = (Gs.pI (Gs.jo cs cur ⟨x, false, false, (Gs.bJ cs cur).l, (Gs.bJ cs cur).c⟩) cur).length := by rw [Gs.PI]; exact hl1
 have hcur := Gs.Mc hop
 have hF : az (fun k => aC (.slice A n cp) k ∨ k = bp) w w := Fr.refl _ _ _
 refine aG (gz af ae hn) (fun w1 U1 => ?_)
 replace ae := ae.ai U1
 replace af := U1.ag af
 refine aG (QW af ae hn (x := x) hN hb hcw hof hop hnm) (fun w2 U2 => ?_)
 refine nM (kL _ _ _ _ _) (fun h => h rfl) ?_
 refine aB ?_
 replace ae := ae.ai U2
 replace af := U2.ag af
 refine aG (iI af ae hn (i := cur)) (fun w3 U3 => ?_)
 refine Z.n ((Gs.cv Gs.zc).toArray) (fun b4 w4 e4 dh _ U4 => ?_)
 replace af := U3.ag af
 have mX : bp ≠ b4 := by have := au af; omega
 replace ae := ae.ai U3
 have kF := ae.apart e4
 replace hF := ((hF.go0 U1).go0 U2).go0 U3
 have lV : w.heap.size ≤ b4 := by have := hF.size; omega
 refine Z.t 5 ((Gs.cv (Gs.bJ cs cur)).toArray) (by (simp [Value.cells, Value.oneCell', Gs.cv, Gs.fv, Gs.ie]; done)) dh (fun w5 dh _ U5 => ?_)
 refine bH (fun g w' => (Z.h w' bp #[Z.i r, Z.i c, .slice A n cp, Z.i cur] 91) ∧ (Own B0 w' 37 5 (.slice A n cp) (rows Gs.cv cs)) ∧ (Z.h w' b4 ((Gs.cv (Gs.bJ cs cur)).toArray) 37) ∧ (az (fun k => aC (.slice A n cp) k ∨ k = bp) w w')) (fun J1 hJ1 => ?_) (fun gJ1 jX hI => ?_)
 refine aB ?_
 refine hJ1 _ _ ?_
 replace ae := (ae.ai U4).aA U5 kF
 replace af := U5.ak (U4.ag af) mX
 replace hF := (hF.go0 U4).go1 U5 lV
 exact ⟨af, ae, dh, hF⟩
 replace ae := (ae.ai U4).aA U5 kF
 replace af := U5.ak (U4.ag af) mX
 replace hF := (hF.go0 U4).go1 U5 lV
 obtain ⟨af, ae, dh, hF⟩ := hI
 refine Z.f 3 ?_
 refine Z.l dh ?_
 refine Z.f 4 ?_
 refine Z.l dh ?_
 refine aj (bz (l := [(0, 1), (1, 1), (2, 1), (3, 1), (4, 1)]) (z := #[Z.u 0, .bool false, .bool false, Z.u 0, Z.u 0]) (cs := Gs.cv ⟨x, false, false, (Gs.bJ cs cur).l, (Gs.bJ cs cur).c⟩) (by kernel_rfl) (by rfl)) ?_
 refine aJ (jG af ae hn (i := cur) (x := ⟨x, false, false, (Gs.bJ cs cur).l, (Gs.bJ cs cur).c⟩)) (fun v7 w7 D7 => ?_)
 obtain ⟨rfl, N7, U7⟩ := D7
 have aK := ae
 replace af := U7.get af (fun h => Own.aP aK af (by decide) _ h rfl)
 replace ae := N7
 replace hF := hF.go U7 (fun i h hs => .inl hs)
 clear aK
 refine aJ (yg af ae hl1 hN hb hw1 (i := cur)) (fun v8 w8 D8 => ?_)
 obtain ⟨rfl, N8, U8⟩ := D8
 have aK := ae
 replace af := U8.get af (fun h => Own.aP aK af (by decide) _ h rfl)
 replace ae := N8
 replace hF := hF.go U8 (fun i h hs => .inl hs)
 clear aK
 refine aJ (Vd af ae hl2 hp hN hb hx) (fun v9 w9 D9 => ?_)
 obtain ⟨rfl, N9, U9⟩ := D9
 replace ae := ae.aA U9 (Own.aP ae (by assumption) (by decide))
 replace af := N9
 replace hF := hF.go U9 (fun i _ h => .inr h)
 exact ⟨_, rfl, rfl, af, ae, hF⟩
theorem zC {r0 c0 r1 c1 wh : Int} {bs : Nat} {bp : Nat} {w : World} (aI : Z.h w bs #[Z.i r0, Z.i c0, Z.i r1, Z.i c1, Z.i wh, Z.p bp] 89)  :
    oX 13 #[Z.p bs] w fun e w' => e = .returned (Z.p bp) ∧ az no w w' := by
 refine F13.calls ?_
 unfold F13
 have hF : az no w w := Fr.refl _ _ _
 refine dm ?_
 refine Z.f 5 ?_
 refine Z.l aI ?_
 exact ⟨rfl, hF⟩
theorem Ve {r0 c0 r1 c1 wh : Int} {bs : Nat} {pv : Value} {w : World} (aI : Z.h w bs #[Z.i r0, Z.i c0, Z.i r1, Z.i c1, Z.i wh, pv] 89) (hz : (Gs.aU r0 c0) ≠ 0) :
    oX 82 #[Z.p bs, Z.i 0] w fun e w' => ∃ v, e = .returned v ∧ ∃ bp g, Z.h w' bs #[Z.i r0, Z.i c0, Z.i r1, Z.i c1, Z.i 0, Z.p bp] 89 ∧ w.heap.size ≤ bp ∧ Z.h w' bp #[Z.i r0, Z.i c0, .slice (some ⟨g, 0, none⟩) (Gs.aU r0 c0).toNat (Gs.aU r0 c0).toNat, Z.i 0] 91 ∧ Own w.heap.size w' 37 5 (.slice (some ⟨g, 0, none⟩) (Gs.aU r0 c0).toNat (Gs.aU r0 c0).toNat) (rows Gs.cv (List.replicate (Gs.aU r0 c0).toNat Gs.zc)) ∧ az (· = bs) w w' := by
 refine PK.calls ?_
 unfold PK
 have hF : az (· = bs) w w := Fr.refl _ _ _
 refine dm ?_
 refine Z.f 4 ?_
 refine Z.s aI (fun w1 aI _ U1 => ?_)
 replace hF := hF.go U1 (fun i _ h => h)
 refine dm ?_
 refine Z.f 0 ?_
 refine aj (Gl (n := 2) (m := 2) (by kernel_rfl) (by omega) (by omega)) ?_
 refine Z.b 2 _ aI ?_
 refine aJ (yC (r := r0) (c := c0) hz) (fun v2 w2 D2 => ?_)
 obtain ⟨bp, g, rfl, gbp, af, ae, U2⟩ := D2
 have ui : bs ≠ bp := by have := au aI; omega
 have rD : w.heap.size ≤ bp := by have := hF.size; omega
 replace ae := ae.mono (B' := w.heap.size) hF.size
 refine Z.e ?_
 refine Z.e ?_
 refine dm ?_
 refine Z.f 5 ?_
 replace aI := U2.ag aI
 refine Z.s aI (fun w3 aI _ U3 => ?_)
 replace ae := ae.aA U3 (Own.aP ae (by assumption) (by decide))
 replace hF := hF.go0 U2
 replace hF := hF.go U3 (fun i _ h => h)
 replace af := U3.ak af (Ne.symm ui)
 exact ⟨_, rfl, bp, g, aI, rD, af, ae, hF⟩
theorem Wx {r0 c0 r1 c1 wh : Int} {bs : Nat} {pv : Value} {w : World} (aI : Z.h w bs #[Z.i r0, Z.i c0, Z.i r1, Z.i c1, Z.i wh, pv] 89) (hz : (Gs.aU r0 c0) ≠ 0) :
    oX 44 #[Z.p bs] w fun e w' => ∃ v, e = .returned v ∧ ∃ bp g, Z.h w' bs #[Z.i r0, Z.i c0, Z.i r1, Z.i c1, Z.i 0, Z.p bp] 89 ∧ w.heap.size ≤ bp ∧ Z.h w' bp #[Z.i r0, Z.i c0, .slice (some ⟨g, 0, none⟩) (Gs.aU r0 c0).toNat (Gs.aU r0 c0).toNat, Z.i 0] 91 ∧ Own w.heap.size w' 37 5 (.slice (some ⟨g, 0, none⟩) (Gs.aU r0 c0).toNat (Gs.aU r0 c0).toNat) (rows Gs.cv (List.replicate (Gs.aU r0 c0).toNat Gs.zc)) ∧ az (· = bs) w w' := by
 refine WV.calls ?_
 unfold WV
 have hF : az (· = bs) w w := Fr.refl _ _ _
 refine aJ (Ve aI hz) (fun v1 w1 D1 => ?_)
 obtain ⟨bp, g, N1, gbp, af, ae, U1⟩ := D1
 have rD : w.heap.size ≤ bp := by have := hF.size; omega
 replace ae := ae.mono (B' := w.heap.size) hF.size
 replace aI := N1
 replace hF := hF.go U1 (fun i _ h => h)
 exact ⟨_, rfl, bp, g, aI, rD, af, ae, hF⟩
theorem aaJ {r0 c0 r1 c1 : Int} {w : World} (hz : (Gs.aU r0 c0) ≠ 0) (hz1 : Gs.aU r1 c1 ≠ 0) :
    oX 12 #[.agg #[Z.i r0, Z.i c0], .agg #[Z.i r1, Z.i c1]] w fun e w' => ∃ v, e = .returned v ∧ ∃ bs bp g, v = .tuple #[Z.p bs, Z.i 0] ∧ w.heap.size ≤ bs ∧ w.heap.size ≤ bp ∧ Z.h w' bs #[Z.i r0, Z.i c0, Z.i r1, Z.i c1, Z.i 0, Z.p bp] 89 ∧ Z.h w' bp #[Z.i r0, Z.i c0, .slice (some ⟨g, 0, none⟩) (Gs.aU r0 c0).toNat (Gs.aU r0 c0).toNat, Z.i 0] 91 ∧ Own w.heap.size w' 37 5 (.slice (some ⟨g, 0, none⟩) (Gs.aU r0 c0).toNat (Gs.aU r0 c0).toNat) (rows Gs.cv (List.replicate (Gs.aU r0 c0).toNat Gs.zc)) ∧ az no w w' := by
 refine WU.calls ?_
 unfold WU
 have hF : az no w w := Fr.refl _ _ _
 refine Z.x (#[Z.i r0, Z.i c0]) (fun b1 w1 e1 ah _ U1 => ?_)
 refine Z.x (#[Z.i r1, Z.i c1]) (fun b2 w2 e2 ax _ U2 => ?_)
 replace ah := U2.ag ah
 refine Z.b 2 (#[Z.i r0, Z.i c0]) ah ?_
 refine aG (qF (r := r0) (c := c0)) (fun w3 U3 => ?_)
 refine nM (dC _ _ _ _ _) (hz) ?_
 refine bP ?_
 replace ax := U3.ag ax
 refine Z.b 2 (#[Z.i r1, Z.i c1]) ax ?_
 refine bP ?_
 refine aG (qF (r := r1) (c := c1)) (fun w4 U4 => ?_)
 refine bP ?_
 refine nM (dC _ _ _ _ _) (hz1) ?_
 refine bG (aB ?_)
 replace ah := U4.ag (U3.ag ah)
 refine Z.b 2 (#[Z.i r0, Z.i c0]) ah ?_
 replace ax := U4.ag ax
 refine Z.b 2 (#[Z.i r1, Z.i c1]) ax ?_
 refine aj (tC (n := 2) (m := 2) (z := #[Z.i 0, Z.i 0, Z.i 0, Z.i 0]) (by kernel_rfl) (by kernel_rfl) (by (simp [eP, splice, gq, Value.cells]; rfl))) ?_
 refine aj (bz (l := [(0, 4), (4, 1), (5, 1)]) (z := #[Z.i 0, Z.i 0, Z.i 0, Z.i 0, Z.i 0, .pointer none]) (cs := [Z.i r0, Z.i c0, Z.i r1, Z.i c1, Z.i 0, .pointer none]) (by kernel_rfl) (by rfl)) ?_
 refine Z.x (#[Z.i r0, Z.i c0, Z.i r1, Z.i c1, Z.i 0, .pointer none]) (fun b7 w7 e7 pM _ U7 => ?_)
 replace hF := (((hF.go0 U1).go0 U2).go0 U3).go0 U4
 have xY : w.heap.size ≤ b7 := by have := hF.size; omega
 refine aJ (Wx pM hz) (fun v8 w8 D8 => ?_)
 obtain ⟨bp, g, N8, gbp, af, ae, U8⟩ := D8
 replace hF := hF.go0 U7
 have rD : w.heap.size ≤ bp := by have := hF.size; omega
 replace ae := ae.mono (B' := w.heap.size) hF.size
 replace pM := N8
 replace hF := hF.go1 U8 xY
 exact ⟨_, rfl, _, bp, g, rfl, xY, rD, pM, af, ae, hF⟩
theorem aeB {bs : Nat} {w : World} :
    oX 15 #[Z.p bs] w fun e w' => ∃ v, e = .returned v ∧ ∃ bk, v = Z.p bk ∧ w.heap.size ≤ bk ∧ Z.h w' bk #[Z.p bs, Z.i 0, Z.i 0, Z.i 0, .bool false, Z.u 96] 95 ∧ az no w w' := by
 refine F15.calls ?_
 unfold F15
 have hF : az no w w := Fr.refl _ _ _
 refine aj (bz (l := [(0, 1), (1, 3), (4, 1), (5, 1)]) (z := #[.pointer none, Z.i 0, Z.i 0, Z.i 0, .bool false, Z.u 0]) (cs := [Z.p bs, Z.i 0, Z.i 0, Z.i 0, .bool false, Z.u 96]) (by kernel_rfl) (by rfl)) ?_
 refine Z.x (#[Z.p bs, Z.i 0, Z.i 0, Z.i 0, .bool false, Z.u 96]) (fun b2 w2 e2 ax _ U2 => ?_)
 have fF : w.heap.size ≤ b2 := by have := hF.size; omega
 replace hF := hF.go0 U2
 exact ⟨_, rfl, _, rfl, fF, ax, hF⟩
theorem acJ {bk bs : Nat} {st why tn last : Int} {ins : Bool} {w : World} (aV : Z.h w bk #[Z.p bs, Z.i st, Z.i why, Z.i tn, .bool ins, Z.u last] 95)  :
    oX 16 #[Z.p bk] w fun e w' => e = .returned (.pointer (some ⟨bk, 1, none⟩)) ∧ az no w w' := by
 refine F16.calls ?_
 unfold F16
 have hF : az no w w := Fr.refl _ _ _
 refine dm ?_
 refine Z.f 1 ?_
 exact ⟨rfl, hF⟩
end Go.Proofs.YtjdoakbadehicaaGreatDoor
end
section
namespace Gs
open Go Go.Sh
section
variable {cs : List Cell} {z : Nat} {l : List Int}
def afj (cs : List Cell) (i x : Int) : List Cell := pI (jo cs i ⟨x, false, false, (bJ cs i).l, (bJ cs i).c⟩) i
theorem qw.put (h : qw cs z l) (hl : l.length < z) {i : Int} (hi : i = (l.length : Int) + 1) (x : Int) : qw (afj cs i x) z (l ++ [x]) := by
 subst hi
 have := h.2.2.2.1 ((l.length : Int) + 1) (by omega)
 unfold afj
 rw [this]
 exact h.step hl x
theorem qw.next (h : qw cs z l) (hl : l.length + 2 ≤ z) {i : Int} (hi : i = (l.length : Int) + 1) (x : Int) : (bJ (afj cs i x) ((i + 1) % ((z + 3 : Nat) : Int))).st = false := by
 have h2 := h.put (by omega) hi x
 rw [Int.emod_eq_of_lt (by omega) (by omega)]
 exact h2.st (by simp only [List.length_append, List.length_cons, List.length_nil]; omega) (by omega)
end
end Gs
end
section
namespace Gs
open Go Go.Sh
def Pw (r c : Int) (n : Nat) (cs : List Cell) (cur : Int) : Prop := n = cs.length ∧ jq cs ∧ (0 ≤ cur ∧ cur < n) ∧ 0 < n ∧ aU r c = n ∧ n ≤ 4096
section
variable {r c cur : Int} {n : Nat} {cs : List Cell}
theorem Pw.set (h : Pw r c n cs cur) (i : Int) {x : Cell} (hx : Cw x) : Pw r c n (jo cs i x) cur := ⟨by rw [mr]; exact h.1, h.2.1.jo hx i, h.2.2⟩
theorem Pw.mark (h : Pw r c n cs cur) (i : Int) : Pw r c n (pI cs i) cur := ⟨by rw [PI]; exact h.1, ahs h.2.1 i, h.2.2⟩
theorem Pw.unm (h : Pw r c n cs cur) (l : List Nat) : Pw r c n (sN cs l) cur := ⟨by rw [← Jj]; exact h.1, QY h.2.1 l, h.2.2⟩
theorem Pw.at (h : Pw r c n cs cur) {i : Int} (hi : 0 ≤ i ∧ i < n) : Pw r c n cs i := ⟨h.1, h.2.1, hi, h.2.2.2⟩
theorem Pw.fill (h : Pw r c n cs cur) (l : List Int) {x : Cell} (hx : Cw x) : Pw r c n (sF cs l x) cur := ⟨by rw [SS]; exact h.1, h.2.1.fill hx l, h.2.2⟩
theorem Pw.rc (h : Pw r c n cs cur) : 1 ≤ r ∧ r ≤ 43 ∧ 1 ≤ c ∧ c ≤ 132 ∧ r * c = n := by
 have hN := h.2.2.2.2.1
 have hp := h.2.2.2.1
 unfold aU at hN
 split at hN
 ·omega
 ·rename_i hh
  exact ⟨by omega, by omega, by omega, by omega, hN⟩
end
def Kp (cs cs' : List Cell) : Prop := cs'.length = cs.length ∧ ∀ i : Int, stB cs' i = stB cs i ∧ (stB cs i = true → bJ cs' i = bJ cs i)
theorem Kp.refl (cs : List Cell) : Kp cs cs := ⟨rfl, fun _ => ⟨rfl, fun _ => rfl⟩⟩
theorem YU (cs : List Cell) (i j : Int) (x : Cell) : bJ (jo cs i x) j = if i = j ∧ 0 ≤ i ∧ i < cs.length then x else bJ cs j := by
 by_cases hi : 0 ≤ i ∧ i < cs.length
 ·by_cases hj : 0 ≤ j ∧ j < cs.length
  ·rw [Io hi hj]
   by_cases e : i = j
   ·rw [if_pos e, if_pos ⟨e, hi⟩]
   ·rw [if_neg e, if_neg (fun h => e h.1)]
  ·rw [xy (by rw [mr]; exact hj), xy hj, if_neg (by omega)]
 ·rw [KN x hi, if_neg (fun h => hi h.2)]
theorem Kp.set {cs cs' : List Cell} (h : Kp cs cs') {i : Int} {x : Cell} (hi : stB cs i = false) (hx : x.st = false) : Kp cs (jo cs' i x) := by
 refine ⟨by rw [mr]; exact h.1, fun j => ?_⟩
 show (bJ (jo cs' i x) j).st = _ ∧ _
 rw [YU]
 by_cases e : i = j ∧ 0 ≤ i ∧ i < cs'.length
 ·rw [if_pos e]
  obtain ⟨rfl, _⟩ := e
  exact ⟨by rw [hx, hi], fun h => by rw [hi] at h; cases h⟩
 ·rw [if_neg e]; exact h.2 j
def Mk (cs cs' : List Cell) (i : Int) : Prop := ∃ c1, Kp cs c1 ∧ cs' = pI c1 i
def uP (cs : List Cell) (l : List Int) : Prop := ∀ x ∈ l, (0 ≤ x ∧ x < cs.length) ∧ stB cs x = false
theorem uP.nil (cs : List Cell) : uP cs [] := fun _ h => by cases h
theorem uP.snoc {cs : List Cell} {l : List Int} (h : uP cs l) {x : Int} (hx : (0 ≤ x ∧ x < cs.length) ∧ stB cs x = false) : uP cs (l ++ [x]) := fun y hy => by
 rcases List.mem_append.1 hy with hy | hy
 ·exact h y hy
 ·cases List.mem_singleton.1 hy; exact hx
theorem uP.get {cs : List Cell} {l : List Int} (h : uP cs l) {k : Nat} {x : Int} (hx : l[k]? = some x) : (0 ≤ x ∧ x < cs.length) ∧ stB cs x = false := h x (List.mem_of_getElem? hx)
theorem Su {cs : List Cell} {i : Int} (hi : 0 ≤ i ∧ i < cs.length) (h : mf cs i = false) {j : Int} (hj : 0 ≤ j ∧ j < cs.length) : (0 ≤ j ∧ j < cs.length) ∧ stB cs j = false :=
 ⟨hj, Oj hi (by have := of_decide_eq_false h; exact Classical.not_not.1 this) j hj⟩
theorem YQ {cs : List Cell} {i : Int} (h : mf cs i = true) : ¬ iZ cs i < 0 ∧ mg cs i = je cs (iZ cs i) := by
 have := of_decide_eq_true h
 exact ⟨this, by unfold mg; rw [if_neg this]⟩
theorem ajw {cs : List Cell} {i : Int} (hi : 0 ≤ i ∧ i < cs.length) (h : mf cs i = true) : ∃ k : Nat, (allM cs)[k]? = some (mg cs i) := by
 obtain ⟨h1, h2⟩ := YQ h
 obtain ⟨h3, h4, h5, _⟩ := SV hi h1
 have hm : mg cs i ∈ allM cs := by
  rw [h2]
  exact List.mem_map.2 ⟨_, Ee.2 ⟨⟨h3, h4⟩, h5⟩, rfl⟩
 exact List.getElem?_of_mem hm
theorem row_in {cs : List Cell} {i : Int} (hi : 0 ≤ i ∧ i < cs.length) (h : mf cs i = true) {k : Nat} {x : Int} (hx : (dZ cs.length (mg cs i))[k]? = some x) : (0 ≤ x ∧ x < cs.length) ∧ stB cs x = false := by
 obtain ⟨q, hq⟩ := ajw hi h
 exact ⟨FO hx, Ip hq x (List.mem_of_getElem? hx)⟩
theorem ajr {cs : List Cell} {i : Int} (ho : kG cs i = true) (h : mf cs i = true) : ∃ j : Nat, (dZ cs.length (mg cs i))[j]? = some i := by
 have hi := Mc ho
 obtain ⟨h1, h2⟩ := YQ h
 obtain ⟨h3, h4, h5, j, hj, hx⟩ := SV hi h1
 have hne : iZ cs i ≠ i := by
  unfold kG at ho
  rw [if_neg h1] at ho
  exact of_decide_eq_true ((Bool.and_eq_true _ _).mp ho).1
 obtain ⟨L, q1, q2, _⟩ := len_eq ⟨h3, h4⟩ h5
 have hj1 : 1 ≤ j := by
  rcases Nat.eq_zero_or_pos j with rfl | hh
  ·exfalso; rw [Int.natCast_zero, Int.add_zero, Int.emod_eq_of_lt h3 h4] at hx; exact hne hx.symm
  ·exact hh
 rw [h2]
 have hs : (je cs (iZ cs i)).s = iZ cs i := rfl
 have hl : (je cs (iZ cs i)).l = vK cs (iZ cs i) := rfl
 have hpl := qZ (N := cs.length) (f := je cs (iZ cs i)) (by rw [hs]; exact ⟨h3, h4⟩)
 refine ⟨j - 1, ?_⟩
 rw [vH (by rw [hl] at hpl; omega), hs, show (j - 1 + 1 : Nat) = j by omega, ← hx]
theorem Mk.of {cs : List Cell} {i : Int} {x : Cell} (hi : stB cs i = false) (hx : x.st = false) {c1 : List Cell} (h : Kp cs c1) : Mk cs (pI (jo c1 i x) i) i := ⟨_, h.set hi hx, rfl⟩
theorem ahp {cs : List Cell} {i : Int} (h : kG cs i = true) : stB cs i = false := by
 have hi := Mc h
 cases hs : stB cs i with
 | false => rfl
 | true =>
  exfalso
  unfold kG at h
  rw [SX hi hs, if_neg (by omega)] at h
  simp at h
theorem ahm (i : Int) {r : Int} (hr : 1 ≤ r) (hi : -1 ≤ i ∧ i ≤ 1) : -1 ≤ Int.tmod i r ∧ Int.tmod i r ≤ 1 := by
 have h : i = -1 ∨ i = 0 ∨ i = 1 := by omega
 rcases h with rfl | rfl | rfl
 ·by_cases h1 : r = 1
  ·subst h1; decide
  ·rw [Int.neg_tmod, Int.tmod_eq_emod_of_nonneg (by decide), Int.emod_eq_of_lt (by decide) (by omega)]; decide
 ·rw [Int.zero_tmod]; decide
 ·by_cases h1 : r = 1
  ·subst h1; decide
  ·rw [Int.tmod_eq_emod_of_nonneg (by decide), Int.emod_eq_of_lt (by decide) (by omega)]; decide
theorem ajk {a : Int} (h : -1 ≤ a ∧ a ≤ 1) (c : Int) : a * c = -c ∨ a * c = 0 ∨ a * c = c := by
 have h : a = -1 ∨ a = 0 ∨ a = 1 := by omega
 rcases h with rfl | rfl | rfl
 ·left; omega
 ·right; left; omega
 ·right; right; omega
end Gs
namespace Gs
theorem YV {cs cs' : List Cell} (hl : cs'.length = cs.length) (hs : ∀ i : Int, stB cs' i = stB cs i) (a s : Int) : kT cs' a s = kT cs a s := by
 unfold kT AX
 simp only [hl, hs]
theorem Kp.bef {cs cs' : List Cell} (h : Kp cs cs') (i : Int) : iZ cs' i = iZ cs i := YV h.1 (fun j => (h.2 j).1) _ _
theorem Mk.free {cs c1 : List Cell} {i : Int} (h : Kp cs c1) (ho : mf cs i = false) : Mk cs c1 i :=
 ⟨c1, h, by rw [WT]; rw [h.bef]; have := of_decide_eq_false ho; exact Classical.not_not.1 this⟩
theorem Kp.trans {a b c : List Cell} (h : Kp a b) (k : Kp b c) : Kp a c := ⟨k.1.trans h.1, fun i => ⟨(k.2 i).1.trans (h.2 i).1, fun hi => ((k.2 i).2 ((h.2 i).1.trans hi)).trans ((h.2 i).2 hi)⟩⟩
theorem Kp.fill {cs : List Cell} {x : Cell} (hx : x.st = false) : ∀ {l : List Int} {c1 : List Cell}, Kp cs c1 → (∀ i ∈ l, (0 ≤ i ∧ i < cs.length) ∧ stB cs i = false) → Kp cs (sF c1 l x)
 | [], _, h, _ => h
 | i :: l, c1, h, hl => by
  have hi := hl i (List.mem_cons_self ..)
  show Kp cs (sF (c1.set i.toNat x) l x)
  rw [← Jk x hi.1.1 (by rw [h.1]; exact hi.1.2)]
  exact Kp.fill hx (h.set hi.2 hx) fun j hj => hl j (List.mem_cons_of_mem _ hj)
def nZ (cs : List Cell) (l : List Nat) : List Cell := l.foldl (fun c (s : Nat) => if qL (je cs s).a = true then c else sO false c s) cs
theorem FT {cs : List Cell} {l : List Nat} {k s : Nat} (h : l[k]? = some s) : nZ cs (l.take (k + 1)) = if qL (je cs s).a = true then nZ cs (l.take k) else sO false (nZ cs (l.take k)) s := by
 unfold nZ; rw [List.take_add_one, h]; simp [List.foldl_append]
theorem Ol {P : List Cell → Prop} {cs : List Cell} (h0 : P cs) (hs : ∀ c s, P c → P (sO false c s)) (l : List Nat) : P (nZ cs l) := by
 have : ∀ (l : List Nat) (c : List Cell), P c → P (l.foldl (fun c (s : Nat) => if qL (je cs s).a = true then c else sO false c s) c) := by
  intro l
  induction l with
  | nil => exact fun _ h => h
  | cons s l ih => exact fun c h => ih _ (by show P (if _ then _ else _); split; exact h; exact hs c s h)
 exact this l cs h0
theorem uG (cs : List Cell) (l : List Nat) : cs.length = (nZ cs l).length := (Ol (P := fun c => c.length = cs.length) rfl (fun c s h => by rw [KO]; exact h) l).symm
theorem AU {cs : List Cell} (h : jq cs) (l : List Nat) : jq (nZ cs l) := Ol h (fun c s h => SY h s) l
theorem Md (cs : List Cell) (l : List Nat) (i : Int) : stB (nZ cs l) i = stB cs i := Ol (P := fun c => stB c i = stB cs i) rfl (fun c s h => by rw [abE]; exact h) l
theorem aht {cs : List Cell} {s : Nat} {l : List Nat} (h : s ∉ l) : bJ (nZ cs l) s = bJ cs s := by
 have : ∀ (l : List Nat) (c : List Cell), s ∉ l → bJ (l.foldl (fun c (s : Nat) => if qL (je cs s).a = true then c else sO false c s) c) s = bJ c s := by
  intro l
  induction l with
  | nil => exact fun _ _ => rfl
  | cons t l ih =>
   intro c hs
   have ht : s ≠ t := fun e => hs (by rw [e]; exact List.mem_cons_self ..)
   rw [List.foldl_cons, ih _ (fun hm => hs (List.mem_cons_of_mem _ hm))]
   split
   ·rfl
   ·rw [Om, if_neg (fun hh => ht (by have := hh.1; omega))]
 exact this l cs h
theorem FU {cs : List Cell} {k s : Nat} (hx : (bQ cs)[k]? = some s) : (je (nZ cs ((bQ cs).take k)) s).a = (je cs s).a := by
 show (bJ _ _).b % 64 = (bJ _ _).b % 64
 rw [aht (JJ hx)]
theorem Pw.opn {r c cur : Int} {n : Nat} {cs : List Cell} (h : Pw r c n cs cur) (l : List Nat) : Pw r c n (nZ cs l) cur := ⟨by rw [← uG]; exact h.1, AU h.2.1 l, h.2.2⟩
end Gs
namespace Go.Sh
open Go
theorem ajs {k : Nat} {v v' : Value} (h : v = .int .i64 k) (h' : v' = .int .i64 ((k : Int) - 1)) (hk : 0 < k) : (RowKit.intOf v').toNat < (RowKit.intOf v).toNat := by
 subst h; subst h'
 simp only [RowKit.intOf]
 omega
theorem YM {b : Nat} : ¬ aC (.slice none 0 0) b := fun h => by cases h
end Go.Sh
namespace Gs
theorem adS {N i j x : Int} (h : x ∈ qH N i j) : 0 ≤ x ∧ x < N := by
 obtain ⟨k, hk⟩ := List.getElem?_of_mem h
 exact S9 hk
def ER (k q : Int) (cs c1 : List Cell) (cur cur1 : Int) : Prop :=
 ((k = 1 ∨ k = 10 ∨ k = 12 ∨ k = 14 ∨ k = 15) ∧ ((q = 0 ∧ kG cs cur = true ∧ Mk cs c1 cur) ∨ (q ≠ 0 ∧ c1 = cs ∧ cur1 = cur))) ∨ (k = 11 ∧ q = 0) ∨
  (¬ (k = 1 ∨ k = 10 ∨ k = 11 ∨ k = 12 ∨ k = 14 ∨ k = 15) ∧ q = 0 ∧ c1 = cs ∧ cur1 = cur)
end Gs
namespace Gs
def PR (k e st : Int) (cs c1 : List Cell) (cur : Int) : Prop :=
 k ≠ 11 → ((k = 1 ∨ k = 10 ∨ k = 12 ∨ k = 14 ∨ k = 15) ∧ e = 0 ∧ kG cs cur = true ∧ Mk cs c1 cur) ∨ (c1 = cs ∧ (e = 0 → st = 1 → ¬ (k = 1 ∨ k = 10 ∨ k = 12 ∨ k = 14 ∨ k = 15)))
theorem PR.keep {k e st : Int} {cs : List Cell} {cur : Int} (h : e = 0 → st = 1 → ¬ (k = 1 ∨ k = 10 ∨ k = 12 ∨ k = 14 ∨ k = 15)) : PR k e st cs cs cur := fun _ => .inr ⟨rfl, h⟩
theorem ER.pr {k q st : Int} {cs c1 : List Cell} {cur cur1 : Int} (h : ER k q cs c1 cur cur1) : PR k q st cs c1 cur := fun hk => by
 rcases h with ⟨h1, ⟨h2, h3, h4⟩ | ⟨h2, h3, _⟩⟩ | ⟨h1, _⟩ | ⟨h1, h2, h3, _⟩
 ·exact .inl ⟨h1, h2, h3, h4⟩
 ·exact .inr ⟨h3, fun h => absurd h h2⟩
 ·exact absurd h1 hk
 ·exact .inr ⟨h3, fun _ _ h => h1 (by omega)⟩
end Gs
end
section
namespace Go.Proofs.YtjdoakbadehicaaGreatDoor
open Go Go.Sh
set_option maxRecDepth 100000
theorem VF {x : Int} {w : World} (hx : 0 ≤ x ∧ x ≤ 255) :
    oX 126 #[Z.u x] w fun e w' => e = .returned (.bool (decide (x / 32 % 2 = 1 ∧ x / 16 % 2 = 1))) ∧ az no w w' := by
 refine YB.calls ?_
 unfold YB
 have hF : az no w w := Fr.refl _ _ _
 refine dS (mW hx) (fun w1 U1 h1 => ?_) (fun w1 U1 h1 => ?_)
 simp only [Z.d, Z.c] at h1
 refine bD (bD ?_)
 refine aG (yU hx) (fun w2 U2 => ?_)
 refine bu ?_
 replace hF := (hF.go0 U1).go0 U2
 exact ⟨yN (by omega), hF⟩
 simp only [Z.d, Z.c] at h1
 refine bf (bf (bG ?_))
 replace hF := hF.go0 U1
 exact ⟨KH (by omega), hF⟩
theorem Sj {r c i : Int} {w : World} (hi : 0 ≤ i ∧ i < Gs.aU r c) (hc : 1 ≤ c ∧ c ≤ 132) (hb : i < 5000) :
    oX 132 #[.agg #[Z.i r, Z.i c], Z.i i] w fun e w' => e = .returned (.tuple #[Z.i (i / c), Z.i (i % c), .bool true]) ∧ az no w w' := by
 refine YC.calls ?_
 unfold YC
 have hF : az no w w := Fr.refl _ _ _
 refine Z.x (#[Z.i r, Z.i c]) (fun b1 w1 e1 ah _ U1 => ?_)
 refine nM (lss _ _ _ _) (by omega) ?_
 refine bP (bP ?_)
 refine Z.b 2 (#[Z.i r, Z.i c]) ah ?_
 refine bP ?_
 refine aG (qF (r := r) (c := c)) (fun w2 U2 => ?_)
 refine bP ?_
 refine nM (geq _ _ _ _) (by omega) ?_
 refine bG (aB ?_)
 refine dQ (S := no) (fun w3 U3 => ?_)
 refine Z.g 1 ?_
 replace ah := U3.ag (U2.ag ah)
 refine Z.m ah ?_
 refine bi (fun w' hw' => (aof _ (by omega) (by omega) (by omega))) ?_
 refine Z.g 1 ?_
 refine Z.m ah ?_
 refine bi (fun w' hw' => (YD _ (by omega) (by omega) (by omega))) ?_
 refine aF (fun w4 U4 => ?_)
 replace hF := (((hF.go0 U1).go0 U2).go0 U3).go0 U4
 exact ⟨rfl, hF⟩
theorem Ih {r c cur : Int} {A : Option Addr} {n cp bp B0 : Nat} {cs : List Gs.Cell} {w : World} (af : Z.h w bp #[Z.i r, Z.i c, .slice A n cp, Z.i cur] 91) (ae : Own B0 w 37 5 (.slice A n cp) (rows Gs.cv cs)) (hW : Gs.Pw r c n cs cur) {i : Int} :
    oX 131 #[Z.p bp, Z.i i] w fun e w' => ∃ v, e = .returned v ∧ ∃ q : Bool, v = .bool q ∧ az no w w' := by
 refine YE.calls ?_
 unfold YE
 obtain ⟨hn, hcw, hcu, hp, hN, hb⟩ := id hW; have hrc := hW.rc
 have hF : az no w w := Fr.refl _ _ _
 refine aG (tX af ae hn hN hb hcw (i := i)) (fun w1 U1 => ?_)
 cases hob : Gs.mf cs i
 refine Z.e ?_
 refine Z.e ?_
 refine Z.n ((Gs.fv Gs.zf).toArray) (fun b2 w2 e2 ax _ U2 => ?_)
 replace hF := hF.go0 U1
 have fF : w.heap.size ≤ b2 := by have := hF.size; omega
 refine Z.t 3 ((Gs.fv (Gs.mg cs i)).toArray) (by (simp [Value.cells, Value.oneCell', Gs.cv, Gs.fv, Gs.ie]; done)) ax (fun w3 N3 _ U3 => ?_)
 refine bf (bf (bf (bf (bG (bf (bf (bf (bG (bf (bf (bf (bf (bG ?_)))))))))))))
 replace hF := (hF.go0 U2).go1 U3 fF
 exact ⟨_, rfl, _, rfl, hF⟩
 refine Z.e ?_
 refine Z.e ?_
 refine Z.n ((Gs.fv Gs.zf).toArray) (fun b5 w5 e5 bV _ U5 => ?_)
 replace hF := hF.go0 U1
 have iF : w.heap.size ≤ b5 := by have := hF.size; omega
 refine Z.t 3 ((Gs.fv (Gs.mg cs i)).toArray) (by (simp [Value.cells, Value.oneCell', Gs.cv, Gs.fv, Gs.ie]; done)) bV (fun w6 bV _ U6 => ?_)
 refine bD ?_
 refine Z.f 0 ?_
 refine bD ?_
 refine Z.l bV ?_
 refine bD (bD ?_)
 refine ay (dC _ _ _ _ _) (fun h7 => ?_) (fun h7 => ?_)
 refine bu (bD ?_)
 refine Z.f 1 ?_
 refine bD ?_
 refine Z.l bV ?_
 refine bD ?_
 refine ay (gtr _ _ _ _) (fun h8 => ?_) (fun h8 => ?_)
 refine bu (bD ?_)
 refine Z.f 2 ?_
 refine bD ?_
 refine Z.l bV ?_
 refine bD ?_
 refine aG (mW (Gs.YF hcw i)) (fun w9 U9 => ?_)
 refine bD ?_
 refine aj (Ak _) ?_
 refine bu ?_
 replace hF := ((hF.go0 U5).go1 U6 iF).go0 U9
 exact ⟨_, rfl, _, rfl, hF⟩
 refine bu (bf (bf (bf (bf (bG ?_)))))
 replace hF := (hF.go0 U5).go1 U6 iF
 exact ⟨_, rfl, _, rfl, hF⟩
 refine bu (bf (bf (bf (bG (bf (bf (bf (bf (bG ?_)))))))))
 replace hF := (hF.go0 U5).go1 U6 iF
 exact ⟨_, rfl, _, rfl, hF⟩
theorem vC {r c cur : Int} {A : Option Addr} {n cp bp B0 : Nat} {cs : List Gs.Cell} {w : World} (af : Z.h w bp #[Z.i r, Z.i c, .slice A n cp, Z.i cur] 91) (ae : Own B0 w 37 5 (.slice A n cp) (rows Gs.cv cs)) (hW : Gs.Pw r c n cs cur) {i j : Int} (hi : 0 ≤ i ∧ i < n) (hj : j = 1 ∨ j = -1) :
    oX 130 #[Z.p bp, Z.i i, Z.i j] w fun e w' => ∃ v, e = .returned v ∧ ∃ x : Int, v = Z.i x ∧ (0 ≤ x ∧ x < n) ∧ az no w w' := by
 refine YG.calls ?_
 unfold YG
 obtain ⟨hn, hcw, hcu, hp, hN, hb⟩ := id hW; have hrc := hW.rc
 have hF : az no w w := Fr.refl _ _ _
 refine bH (fun g w' => (Z.h w' bp #[Z.i r, Z.i c, .slice A n cp, Z.i cur] 91) ∧ (Own B0 w' 37 5 (.slice A n cp) (rows Gs.cv cs)) ∧ (az no w w')) (fun J1 hJ1 => ?_) (fun gJ1 jX hI => ?_)
 refine aG (eY af ae hn) (fun w1 U1 => ?_)
 refine dW (fun g w' => ∃ (k : Nat), (g 11 = Z.i (k : Int)) ∧ (k ≤ n) ∧ (Z.h w' bp #[Z.i r, Z.i c, .slice A n cp, Z.i cur] 91) ∧ (Own B0 w' 37 5 (.slice A n cp) (rows Gs.cv cs)) ∧ (az no w w')) (fun g w' => n - (RowKit.intOf (g 11)).toNat) ?_ (fun g2 qj hI => ?_)
 replace ae := ae.ai U1
 replace af := U1.ag af
 replace hF := hF.go0 U1
 exact ⟨0, (by rfl), Nat.zero_le _, af, ae, hF⟩
 replace ae := ae.ai U1
 replace af := U1.ag af
 replace hF := hF.go0 U1
 obtain ⟨k, g11, hk, af, ae, hF⟩ := hI
 rw [g11]
 refine ay (lss _ _ _ _) (fun h2 => ?_) (fun h2 => ?_)
 refine aH ?_
 have hkj : (k : Int) * j = k ∨ (k : Int) * j = -(k : Int) := by rcases hj with rfl | rfl <;> omega
 refine aj (EJ _ (by omega)) ?_
 refine aG (kR af ae hn hp hN hb) (fun w3 U3 => ?_)
 replace ae := ae.ai U3
 replace af := U3.ag af
 refine aJ (Ih af ae hW) (fun v4 w4 D4 => ?_)
 obtain ⟨q22, rfl, U4⟩ := D4
 refine jZ (fun h5 => ?_) (fun h5 => ?_)
 replace ae := ae.ai U4
 replace af := U4.ag af
 refine aG (kR af ae hn hp hN hb) (fun w6 U6 => ?_)
 replace hF := ((hF.go0 U3).go0 U4).go0 U6
 exact ⟨_, rfl, _, rfl, Gs.jF _ hp, hF⟩
 refine aj (dF _ (by omega)) ?_
 replace hF := (hF.go0 U3).go0 U4
 replace ae := ae.ai U4
 replace af := U4.ag af
 exact ⟨⟨k + 1, (by rfl), by omega, af, ae, hF⟩, cnt_lt (by rfl) rfl (by omega)⟩
 refine aB ?_
 refine hJ1 _ _ ?_
 exact ⟨af, ae, hF⟩
 obtain ⟨af, ae, hF⟩ := hI
 exact ⟨_, rfl, _, rfl, by omega, hF⟩
theorem Eb {r c cur : Int} {A : Option Addr} {n cp bp B0 : Nat} {cs : List Gs.Cell} {w : World} (af : Z.h w bp #[Z.i r, Z.i c, .slice A n cp, Z.i cur] 91) (ae : Own B0 w 37 5 (.slice A n cp) (rows Gs.cv cs)) (hW : Gs.Pw r c n cs cur)  :
    oX 84 #[Z.p bp] w fun e w' => ∃ v, e = .returned v ∧ ∃ cur, v = Z.i cur ∧ Gs.Pw r c n cs cur ∧ Z.h w' bp #[Z.i r, Z.i c, .slice A n cp, Z.i cur] 91 ∧ az (· = bp) w w' := by
 refine F84.calls ?_
 unfold F84
 obtain ⟨hn, hcw, hcu, hp, hN, hb⟩ := id hW; have hrc := hW.rc
 have hF : az (· = bp) w w := Fr.refl _ _ _
 refine aG (gz af ae hn) (fun w1 U1 => ?_)
 replace ae := ae.ai U1
 replace af := U1.ag af
 refine aJ (vC af ae hW (i := cur) (j := 1) hcu (.inl rfl)) (fun v2 w2 D2 => ?_)
 obtain ⟨x7, rfl, hx7, U2⟩ := D2
 replace ae := ae.ai U2
 replace af := U2.ag af
 refine aJ (lQ af ae hn (i := x7) (by omega)) (fun v3 w3 D3 => ?_)
 obtain ⟨rfl, N3, U3⟩ := D3
 replace af := N3
 replace hF := (hF.go0 U1).go0 U2
 replace hF := hF.go U3 (fun i _ h => h)
 exact ⟨_, rfl, _, rfl, hW.at (by omega), af, hF⟩
theorem Sl {r c cur : Int} {A : Option Addr} {n cp bp B0 : Nat} {cs : List Gs.Cell} {w : World} (af : Z.h w bp #[Z.i r, Z.i c, .slice A n cp, Z.i cur] 91) (ae : Own B0 w 37 5 (.slice A n cp) (rows Gs.cv cs)) (hW : Gs.Pw r c n cs cur)  :
    oX 85 #[Z.p bp] w fun e w' => ∃ v, e = .returned v ∧ ∃ cur, v = Z.i cur ∧ Gs.Pw r c n cs cur ∧ Z.h w' bp #[Z.i r, Z.i c, .slice A n cp, Z.i cur] 91 ∧ az (· = bp) w w' := by
 refine F85.calls ?_
 unfold F85
 obtain ⟨hn, hcw, hcu, hp, hN, hb⟩ := id hW; have hrc := hW.rc
 have hF : az (· = bp) w w := Fr.refl _ _ _
 refine aG (gz af ae hn) (fun w1 U1 => ?_)
 replace ae := ae.ai U1
 replace af := U1.ag af
 refine aG (tX af ae hn hN hb hcw) (fun w2 U2 => ?_)
 cases hob : Gs.mf cs cur
 refine Z.e ?_
 refine Z.e ?_
 refine Z.n ((Gs.fv Gs.zf).toArray) (fun b3 w3 e3 aS _ U3 => ?_)
 replace af := U2.ag af
 have jO : bp ≠ b3 := by have := au af; omega
 replace ae := ae.ai U2
 have gU := ae.apart e3
 replace hF := (hF.go0 U1).go0 U2
 have jk : w.heap.size ≤ b3 := by have := hF.size; omega
 refine Z.t 3 ((Gs.fv (Gs.mg cs cur)).toArray) (by (simp [Value.cells, Value.oneCell', Gs.cv, Gs.fv, Gs.ie]; done)) aS (fun w4 N4 _ U4 => ?_)
 refine bf (bf (bf (bf (bG (bf (bf (bf (bf (bG (bf (bf (bf (bf (bf (bf (bG (aB ?_)))))))))))))))))
 replace ae := (ae.ai U3).aA U4 gU
 replace af := U4.ak (U3.ag af) jO
 refine aG (kR af ae hn hp hN hb) (fun w5 U5 => ?_)
 have := Gs.jF (cur + -2) (N := n) hp
 replace ae := ae.ai U5
 replace af := U5.ag af
 refine aJ (vC af ae hW (i := (cur + -2) % (n : Int)) (j := -1) this (.inr rfl)) (fun v6 w6 D6 => ?_)
 obtain ⟨Sm, rfl, adR, U6⟩ := D6
 replace ae := ae.ai U6
 replace af := U6.ag af
 refine aJ (lQ af ae hn (i := Sm) (by omega)) (fun v7 w7 D7 => ?_)
 obtain ⟨rfl, N7, U7⟩ := D7
 replace af := N7
 replace hF := (((hF.go0 U3).go1 U4 jk).go0 U5).go0 U6
 replace hF := hF.go U7 (fun i _ h => h)
 exact ⟨_, rfl, _, rfl, hW.at (by omega), af, hF⟩
 refine Z.e ?_
 refine Z.e ?_
 refine Z.n ((Gs.fv Gs.zf).toArray) (fun b9 w9 e9 jy _ U9 => ?_)
 replace af := U2.ag af
 have FM : bp ≠ b9 := by have := au af; omega
 replace ae := ae.ai U2
 have zy := ae.apart e9
 replace hF := (hF.go0 U1).go0 U2
 have qc : w.heap.size ≤ b9 := by have := hF.size; omega
 refine Z.t 3 ((Gs.fv (Gs.mg cs cur)).toArray) (by (simp [Value.cells, Value.oneCell', Gs.cv, Gs.fv, Gs.ie]; done)) jy (fun w10 jy _ aT => ?_)
 refine bD (bD ?_)
 refine Z.f 0 ?_
 refine bD ?_
 refine Z.l jy ?_
 refine bD ?_
 replace ae := (ae.ai U9).aA aT zy
 replace af := aT.ak (U9.ag af) FM
 refine aJ (Ih af ae hW) (fun v11 oz D11 => ?_)
 obtain ⟨q19, rfl, bK⟩ := D11
 cases hq19 : q19
 refine bu (bf (bf (bf (bf (bG (bf (bf (bf (bf (bf (bf (bG (aB ?_)))))))))))))
 replace ae := ae.ai bK
 replace af := bK.ag af
 refine aG (kR af ae hn hp hN hb) (fun w12 cZ => ?_)
 have := Gs.jF (cur + -2) (N := n) hp
 replace ae := ae.ai cZ
 replace af := cZ.ag af
 refine aJ (vC af ae hW (i := (cur + -2) % (n : Int)) (j := -1) this (.inr rfl)) (fun v13 uM D13 => ?_)
 obtain ⟨Sm, rfl, adR, dI⟩ := D13
 replace ae := ae.ai dI
 replace af := dI.ag af
 refine aJ (lQ af ae hn (i := Sm) (by omega)) (fun v14 sJ D14 => ?_)
 obtain ⟨rfl, N14, dw⟩ := D14
 replace af := N14
 replace hF := ((((hF.go0 U9).go1 aT qc).go0 bK).go0 cZ).go0 dI
 replace hF := hF.go dw (fun i _ h => h)
 exact ⟨_, rfl, _, rfl, hW.at (by omega), af, hF⟩
 refine bu (bD (bD ?_))
 refine Z.f 0 ?_
 refine bD ?_
 replace jy := bK.ag jy
 refine Z.l jy ?_
 refine bD ?_
 refine ay (kL _ _ _ _ _) (fun h16 => ?_) (fun h16 => ?_)
 refine bu (bD (bD (bD ?_)))
 refine Z.f 0 ?_
 refine bD ?_
 refine Z.l jy ?_
 refine bD ?_
 replace ae := ae.ai bK
 replace af := bK.ag af
 refine aG (kR af ae hn hp hN hb) (fun uo bY => ?_)
 refine bD ?_
 refine ay (kL _ _ _ _ _) (fun h18 => ?_) (fun h18 => ?_)
 refine bu (aH ?_)
 refine Z.f 0 ?_
 replace jy := bY.ag jy
 refine Z.l jy ?_
 replace ae := ae.ai bY
 replace af := bY.ag af
 refine aG (kR af ae hn hp hN hb) (fun yK eu => ?_)
 have := Gs.jF ((Gs.mg cs cur).s + 1) (N := n) hp
 replace ae := ae.ai eu
 replace af := eu.ag af
 refine aJ (lQ af ae hn (i := ((Gs.mg cs cur).s + 1) % (n : Int)) (by omega)) (fun v20 wE D20 => ?_)
 obtain ⟨rfl, N20, dJ⟩ := D20
 replace af := N20
 replace hF := ((((hF.go0 U9).go1 aT qc).go0 bK).go0 bY).go0 eu
 replace hF := hF.go dJ (fun i _ h => h)
 exact ⟨_, rfl, _, rfl, hW.at (by omega), af, hF⟩
 refine bu (aB ?_)
 replace ae := ae.ai bY
 replace af := bY.ag af
 refine aG (kR af ae hn hp hN hb) (fun ED fB => ?_)
 have := Gs.jF (cur + -2) (N := n) hp
 replace ae := ae.ai fB
 replace af := fB.ag af
 refine aJ (vC af ae hW (i := (cur + -2) % (n : Int)) (j := -1) this (.inr rfl)) (fun v23 AB D23 => ?_)
 obtain ⟨Sm, rfl, adR, eF⟩ := D23
 replace ae := ae.ai eF
 replace af := eF.ag af
 refine aJ (lQ af ae hn (i := Sm) (by omega)) (fun v24 Po D24 => ?_)
 obtain ⟨rfl, N24, jm⟩ := D24
 replace af := N24
 replace hF := (((((hF.go0 U9).go1 aT qc).go0 bK).go0 bY).go0 fB).go0 eF
 replace hF := hF.go jm (fun i _ h => h)
 exact ⟨_, rfl, _, rfl, hW.at (by omega), af, hF⟩
 refine bu (bf (bf (bf (bf (bf (bf (bG (aB ?_))))))))
 replace ae := ae.ai bK
 replace af := bK.ag af
 refine aG (kR af ae hn hp hN hb) (fun Pq jM => ?_)
 have := Gs.jF (cur + -2) (N := n) hp
 replace ae := ae.ai jM
 replace af := jM.ag af
 refine aJ (vC af ae hW (i := (cur + -2) % (n : Int)) (j := -1) this (.inr rfl)) (fun v27 Ic D27 => ?_)
 obtain ⟨Sm, rfl, adR, ig⟩ := D27
 replace ae := ae.ai ig
 replace af := ig.ag af
 refine aJ (lQ af ae hn (i := Sm) (by omega)) (fun v28 PD D28 => ?_)
 obtain ⟨rfl, N28, jJ⟩ := D28
 replace af := N28
 replace hF := ((((hF.go0 U9).go1 aT qc).go0 bK).go0 jM).go0 ig
 replace hF := hF.go jJ (fun i _ h => h)
 exact ⟨_, rfl, _, rfl, hW.at (by omega), af, hF⟩
theorem LZ {r c cur : Int} {A : Option Addr} {n cp bp B0 : Nat} {cs : List Gs.Cell} {w : World} (af : Z.h w bp #[Z.i r, Z.i c, .slice A n cp, Z.i cur] 91) (ae : Own B0 w 37 5 (.slice A n cp) (rows Gs.cv cs)) (hW : Gs.Pw r c n cs cur)  :
    oX 86 #[Z.p bp] w fun e w' => ∃ v, e = .returned v ∧ ∃ cur, v = Z.i cur ∧ Gs.Pw r c n cs cur ∧ Z.h w' bp #[Z.i r, Z.i c, .slice A n cp, Z.i cur] 91 ∧ az (· = bp) w w' := by
 refine F86.calls ?_
 unfold F86
 obtain ⟨hn, hcw, hcu, hp, hN, hb⟩ := id hW; have hrc := hW.rc
 have hF : az (· = bp) w w := Fr.refl _ _ _
 refine aG (ku af ae hn) (fun w1 U1 => ?_)
 replace ae := ae.ai U1
 replace af := U1.ag af
 refine aG (gz af ae hn) (fun w2 U2 => ?_)
 refine aG (Sj (r := r) (c := c) (i := cur) (by omega) (by omega) (by omega)) (fun w3 U3 => ?_)
 refine Z.e ?_
 refine Z.e ?_
 refine Z.e ?_
 have hdv : 0 ≤ cur / c ∧ cur / c ≤ 4096 := ⟨Int.ediv_nonneg hcu.1 (by omega), Int.le_trans (Int.ediv_le_self _ hcu.1) (by omega)⟩
 have hmu : 0 ≤ (cur / c + 1) * c ∧ (cur / c + 1) * c ≤ 4097 * 132 := ⟨Int.mul_nonneg (by omega) (by omega), Int.mul_le_mul (by omega) (by omega) (by omega) (by omega)⟩
 refine aj (dF _ (by omega)) ?_
 replace ae := (ae.ai U2).ai U3
 replace af := U3.ag (U2.ag af)
 refine aG (ku af ae hn) (fun w4 U4 => ?_)
 refine aj (tH (off := 1) (by kernel_rfl) (by rfl)) ?_
 refine aj (EJ _ (by omega)) ?_
 replace ae := ae.ai U4
 replace af := U4.ag af
 refine aG (kR af ae hn hp hN hb) (fun w5 U5 => ?_)
 refine bH (fun g w' => (Z.h w' bp #[Z.i r, Z.i c, .slice A n cp, Z.i cur] 91) ∧ (Own B0 w' 37 5 (.slice A n cp) (rows Gs.cv cs)) ∧ (az (· = bp) w w')) (fun J1 hJ1 => ?_) (fun gJ1 jX hI => ?_)
 replace ae := ae.ai U5
 replace af := U5.ag af
 refine aG (eY af ae hn) (fun w6 U6 => ?_)
 refine dW (fun g w' => ∃ (k : Nat), (g 28 = Z.i (k : Int)) ∧ (k ≤ n) ∧ (Z.h w' bp #[Z.i r, Z.i c, .slice A n cp, Z.i cur] 91) ∧ (Own B0 w' 37 5 (.slice A n cp) (rows Gs.cv cs)) ∧ (az (· = bp) w w')) (fun g w' => n - (RowKit.intOf (g 28)).toNat) ?_ (fun g2 qj hI => ?_)
 replace hF := (((((hF.go0 U1).go0 U2).go0 U3).go0 U4).go0 U5).go0 U6
 replace ae := ae.ai U6
 replace af := U6.ag af
 exact ⟨0, (by rfl), Nat.zero_le _, af, ae, hF⟩
 replace hF := (((((hF.go0 U1).go0 U2).go0 U3).go0 U4).go0 U5).go0 U6
 replace ae := ae.ai U6
 replace af := U6.ag af
 obtain ⟨k, g28, hk, af, ae, hF⟩ := hI
 rw [g28]
 refine ay (lss _ _ _ _) (fun h7 => ?_) (fun h7 => ?_)
 refine aH ?_
 refine aG (kR af ae hn hp hN hb) (fun w8 U8 => ?_)
 replace ae := ae.ai U8
 replace af := U8.ag af
 refine dS (nN af ae hn hN hb hcw) (fun w9 U9 h9 => ?_) (fun w9 U9 h9 => ?_)
 refine aH ?_
 have hmo := Gs.jF ((0 + (cur / c + 1) * c) % (n : Int) + (k : Int)) (N := n) hp
 replace ae := ae.ai U9
 replace af := U9.ag af
 refine aJ (lQ af ae hn (i := ((0 + (cur / c + 1) * c) % (n : Int) + (k : Int)) % (n : Int)) (by omega)) (fun v10 w10 D10 => ?_)
 obtain ⟨rfl, N10, aT⟩ := D10
 replace af := N10
 replace hF := (hF.go0 U8).go0 U9
 replace hF := hF.go aT (fun i _ h => h)
 exact ⟨_, rfl, _, rfl, hW.at (by omega), af, hF⟩
 refine aB ?_
 refine aj (dF _ (by omega)) ?_
 replace hF := (hF.go0 U8).go0 U9
 replace ae := ae.ai U9
 replace af := U9.ag af
 exact ⟨⟨k + 1, (by rfl), by omega, af, ae, hF⟩, cnt_lt (by rfl) rfl (by omega)⟩
 refine aB ?_
 refine hJ1 _ _ ?_
 exact ⟨af, ae, hF⟩
 replace hF := ((((hF.go0 U1).go0 U2).go0 U3).go0 U4).go0 U5
 replace ae := ae.ai U5
 replace af := U5.ag af
 obtain ⟨af, ae, hF⟩ := hI
 refine aJ (lQ af ae hn (i := 0) (by omega)) (fun v12 w12 D12 => ?_)
 obtain ⟨rfl, N12, cZ⟩ := D12
 replace af := N12
 replace hF := hF.go cZ (fun i _ h => h)
 exact ⟨_, rfl, _, rfl, hW.at (by omega), af, hF⟩
theorem QH {r c cur : Int} {A : Option Addr} {n cp bp B0 : Nat} {cs : List Gs.Cell} {w : World} (af : Z.h w bp #[Z.i r, Z.i c, .slice A n cp, Z.i cur] 91) (ae : Own B0 w 37 5 (.slice A n cp) (rows Gs.cv cs)) (hW : Gs.Pw r c n cs cur)  :
    oX 87 #[Z.p bp] w fun e w' => ∃ v, e = .returned v ∧ ∃ cur, v = Z.i cur ∧ Gs.Pw r c n cs cur ∧ Z.h w' bp #[Z.i r, Z.i c, .slice A n cp, Z.i cur] 91 ∧ az (· = bp) w w' := by
 refine F87.calls ?_
 unfold F87
 obtain ⟨hn, hcw, hcu, hp, hN, hb⟩ := id hW; have hrc := hW.rc
 have hhb := Gs.Ji (cs := cs) (by omega)
 have hF : az (· = bp) w w := Fr.refl _ _ _
 refine aG (BN af ae hn hN hb hcw) (fun w1 U1 => ?_)
 replace ae := ae.ai U1
 replace af := U1.ag af
 refine aJ (lQ af ae hn (i := Gs.sD cs) (by omega)) (fun v2 w2 D2 => ?_)
 obtain ⟨rfl, N2, U2⟩ := D2
 replace af := N2
 replace hF := hF.go0 U1
 replace hF := hF.go U2 (fun i _ h => h)
 exact ⟨_, rfl, _, rfl, hW.at (by omega), af, hF⟩
theorem xZ {r c cur : Int} {A : Option Addr} {n cp bp B0 : Nat} {cs : List Gs.Cell} {w : World} (af : Z.h w bp #[Z.i r, Z.i c, .slice A n cp, Z.i cur] 91) (ae : Own B0 w 37 5 (.slice A n cp) (rows Gs.cv cs)) (hW : Gs.Pw r c n cs cur) {i j : Int} (hi : -1 ≤ i ∧ i ≤ 1) (hj : -1 ≤ j ∧ j ≤ 1) :
    oX 88 #[Z.p bp, Z.i i, Z.i j] w fun e w' => ∃ v, e = .returned v ∧ ∃ cur, v = Z.i cur ∧ Gs.Pw r c n cs cur ∧ Z.h w' bp #[Z.i r, Z.i c, .slice A n cp, Z.i cur] 91 ∧ az (· = bp) w w' := by
 refine F88.calls ?_
 unfold F88
 obtain ⟨hn, hcw, hcu, hp, hN, hb⟩ := id hW; have hrc := hW.rc
 have hF : az (· = bp) w w := Fr.refl _ _ _
 refine aG (ku af ae hn) (fun w1 U1 => ?_)
 refine Z.n (#[Z.i 0, Z.i 0]) (fun b2 w2 e2 ax _ U2 => ?_)
 replace af := U1.ag af
 have fH : bp ≠ b2 := by have := au af; omega
 replace ae := ae.ai U1
 have dN := ae.apart e2
 replace hF := hF.go0 U1
 have fF : w.heap.size ≤ b2 := by have := hF.size; omega
 refine gQ (n := 2) (by kernel_rfl) (by rfl) (by (simp [Value.cells, Value.oneCell', Gs.cv, Gs.fv, Gs.ie]; done)) ax (Nat.le_of_ble_eq_true rfl) (by (simp; rfl)) (fun w3 ax _ U3 => ?_)
 refine dQ (S := no) (fun w4 U4 => ?_)
 replace ae := ((ae.ai U2).aA U3 dN).ai U4
 replace af := U4.ag (U3.ak (U2.ag af) fH)
 refine fU (fun w' hw' => by have af := hw'.ag af; have ae := ae.ai hw'; exact gz af ae hn) ?_
 refine Z.g 0 ?_
 replace ax := U4.ag ax
 refine Z.m ax ?_
 refine bi (fun w' hw' => (Sr _ (by omega) (by omega))) ?_
 refine Z.g 1 ?_
 refine Z.m ax ?_
 have hmr := Gs.ahm i hrc.1 hi
 have hmc := Gs.ajk hmr c
 refine bi (fun w' hw' => (EJ _ (by omega))) ?_
 refine fU (fun w' hw' => by have af := hw'.ag af; have ae := ae.ai hw'; exact kR af ae hn hp hN hb) ?_
 refine fU (fun w' hw' => by have af := hw'.ag af; have ae := ae.ai hw'; exact kR af ae hn hp hN hb) ?_
 refine aF (fun w8 U8 => ?_)
 have := Gs.jF (((cur + i.tmod r * c) % (n : Int)) + j) (N := n) hp
 replace ae := ae.ai U8
 replace af := U8.ag af
 refine aJ (lQ af ae hn (by omega)) (fun v9 w9 D9 => ?_)
 obtain ⟨rfl, N9, U9⟩ := D9
 replace af := N9
 replace hF := (((hF.go0 U2).go1 U3 fF).go0 U4).go0 U8
 replace hF := hF.go U9 (fun i _ h => h)
 refine aF (fun w10 aT => ?_)
 replace af := aT.ag af
 replace hF := hF.go0 aT
 exact ⟨_, rfl, _, rfl, hW.at (by omega), af, hF⟩
theorem YH {r c cur : Int} {A : Option Addr} {n cp bp B0 : Nat} {cs : List Gs.Cell} {w : World} (af : Z.h w bp #[Z.i r, Z.i c, .slice A n cp, Z.i cur] 91) (ae : Own B0 w 37 5 (.slice A n cp) (rows Gs.cv cs)) (hW : Gs.Pw r c n cs cur)  :
    oX 74 #[Z.p bp] w fun e w' => ∃ v, e = .returned v ∧ ∃ cur, v = Z.i cur ∧ Gs.Pw r c n cs cur ∧ Z.h w' bp #[Z.i r, Z.i c, .slice A n cp, Z.i cur] 91 ∧ az (· = bp) w w' := by
 refine WM.calls ?_
 unfold WM
 obtain ⟨hn, hcw, hcu, hp, hN, hb⟩ := id hW; have hrc := hW.rc
 have hnx := Gs.jF (cur + 1) (N := n) hp
 have hF : az (· = bp) w w := Fr.refl _ _ _
 refine aG (gz af ae hn) (fun w1 U1 => ?_)
 replace ae := ae.ai U1
 replace af := U1.ag af
 refine aG (kR af ae hn hp hN hb) (fun w2 U2 => ?_)
 replace ae := ae.ai U2
 replace af := U2.ag af
 refine aJ (lQ af ae hn (i := (cur + 1) % (n : Int)) (by omega)) (fun v3 w3 D3 => ?_)
 obtain ⟨rfl, N3, U3⟩ := D3
 replace ae := ae.aA U3 (Own.aP ae (by assumption) (by decide))
 replace af := N3
 replace hF := (hF.go0 U1).go0 U2
 replace hF := hF.go U3 (fun i _ h => h)
 replace hW := hW.at hnx
 obtain ⟨xc, hxe⟩ : ∃ x, x = Gs.bJ cs ((cur + 1) % (n : Int)) := ⟨_, rfl⟩
 have hxw := Gs.qY hcw ((cur + 1) % (n : Int))
 refine aG (iI af ae hn) (fun w4 U4 => ?_)
 rw [← hxe]
 refine Z.n ((Gs.cv Gs.zc).toArray) (fun b5 w5 e5 bV _ U5 => ?_)
 replace af := U4.ag af
 have lq : bp ≠ b5 := by have := au af; omega
 replace ae := ae.ai U4
 have kD := ae.apart e5
 replace hF := hF.go0 U4
 have iF : w.heap.size ≤ b5 := by have := hF.size; omega
 refine Z.t 5 ((Gs.cv xc).toArray) (by (simp [Value.cells, Value.oneCell', Gs.cv, Gs.fv, Gs.ie]; done)) bV (fun w6 bV _ U6 => ?_)
 refine Z.f 2 ?_
 refine mQ (kK (by kernel_rfl) bV (by rfl)) (fun h7 => ?_) (fun h7 => ?_)
 refine bD ?_
 refine Z.f 0 ?_
 refine bD ?_
 refine Z.l bV ?_
 refine bD ?_
 refine dS (VF (by rw [hxe]; exact hxw)) (fun w8 U8 h8 => ?_) (fun w8 U8 h8 => ?_)
 simp only [Z.d, Z.c] at h8
 refine bu (aH ?_)
 replace ae := ((ae.ai U5).aA U6 kD).ai U8
 replace af := U8.ag (U6.ak (U5.ag af) lq)
 refine aJ (Eb af ae hW) (fun v9 w9 D9 => ?_)
 obtain ⟨cur, rfl, hW, N9, U9⟩ := D9
 obtain ⟨hn, hcw, hcu, hp, hN, hb⟩ := id hW
 replace af := N9
 replace hF := ((hF.go0 U5).go1 U6 iF).go0 U8
 replace hF := hF.go U9 (fun i _ h => h)
 exact ⟨_, rfl, _, rfl, hW.at (by omega), af, hF⟩
 simp only [Z.d, Z.c] at h8
 refine bu (aB ?_)
 refine Z.f 2 ?_
 replace bV := U8.ag bV
 refine mQ (kK (by kernel_rfl) bV (by rfl)) (fun h11 => ?_) (fun h11 => ?_)
 refine aH ?_
 replace ae := ((ae.ai U5).aA U6 kD).ai U8
 replace af := U8.ag (U6.ak (U5.ag af) lq)
 refine aG (kR af ae hn hp hN hb) (fun w12 cZ => ?_)
 have := Gs.jF ((cur + 1) % (n : Int) + 1) (N := n) hp
 replace ae := ae.ai cZ
 replace af := cZ.ag af
 refine aJ (lQ af ae hn (by omega)) (fun v13 uM D13 => ?_)
 obtain ⟨rfl, N13, dI⟩ := D13
 replace af := N13
 replace hF := (((hF.go0 U5).go1 U6 iF).go0 U8).go0 cZ
 replace hF := hF.go dI (fun i _ h => h)
 exact ⟨_, rfl, _, rfl, hW.at (by omega), af, hF⟩
 refine aB ?_
 replace af := U8.ag (U6.ak (U5.ag af) lq)
 replace hF := ((hF.go0 U5).go1 U6 iF).go0 U8
 exact ⟨_, rfl, _, rfl, hW.at (by omega), af, hF⟩
 refine bf (bf (bf (bG (aB ?_))))
 refine Z.f 2 ?_
 refine mQ (kK (by kernel_rfl) bV (by rfl)) (fun h16 => ?_) (fun h16 => ?_)
 refine aH ?_
 replace ae := (ae.ai U5).aA U6 kD
 replace af := U6.ak (U5.ag af) lq
 refine aG (kR af ae hn hp hN hb) (fun uo bY => ?_)
 have := Gs.jF ((cur + 1) % (n : Int) + 1) (N := n) hp
 replace ae := ae.ai bY
 replace af := bY.ag af
 refine aJ (lQ af ae hn (by omega)) (fun v18 uY D18 => ?_)
 obtain ⟨rfl, N18, dE⟩ := D18
 replace af := N18
 replace hF := ((hF.go0 U5).go1 U6 iF).go0 bY
 replace hF := hF.go dE (fun i _ h => h)
 exact ⟨_, rfl, _, rfl, hW.at (by omega), af, hF⟩
 refine aB ?_
 replace af := U6.ak (U5.ag af) lq
 replace hF := (hF.go0 U5).go1 U6 iF
 exact ⟨_, rfl, _, rfl, hW.at (by omega), af, hF⟩
theorem L6 {x : Int} {w : World} (hx : 0 ≤ x ∧ x ≤ 255) :
    oX 119 #[Z.u x] w fun e w' => e = .returned (.bool (decide ((240 ≤ x ∧ x ≤ 249) ∨ x = 75 ∨ x = 96 ∨ x = 28))) ∧ az no w w' := by
 refine YI.calls ?_
 unfold YI
 have hF : az no w w := Fr.refl _ _ _
 refine dS (RX (b := x)) (fun w1 U1 h1 => ?_) (fun w1 U1 h1 => ?_)
 simp only [Z.d, Z.c] at h1
 refine bI (bI (bu (bI (bI (bu (bI (bI (bu ?_))))))))
 replace hF := hF.go0 U1
 exact ⟨Kz (by omega), hF⟩
 simp only [Z.d, Z.c] at h1
 refine bP (bP ?_)
 refine ay (dC _ _ _ _ _) (fun h3 => ?_) (fun h3 => ?_)
 refine bG (bI (bI (bu (bI (bI (bu ?_))))))
 replace hF := hF.go0 U1
 exact ⟨Kz (by omega), hF⟩
 refine bG (bP (bP ?_))
 refine ay (dC _ _ _ _ _) (fun h5 => ?_) (fun h5 => ?_)
 refine bG (bI (bI (bu ?_)))
 replace hF := hF.go0 U1
 exact ⟨Kz (by omega), hF⟩
 refine bG (bP (bP ?_))
 refine aj (dC _ _ _ _ _) ?_
 refine bG ?_
 replace hF := hF.go0 U1
 exact ⟨yN (by omega), hF⟩
theorem Ii {r c cur : Int} {A : Option Addr} {n cp bp B0 : Nat} {cs : List Gs.Cell} {w : World} (af : Z.h w bp #[Z.i r, Z.i c, .slice A n cp, Z.i cur] 91) (ae : Own B0 w 37 5 (.slice A n cp) (rows Gs.cv cs)) (hW : Gs.Pw r c n cs cur) {i : Int} (hi : 0 ≤ i ∧ i < n) :
    oX 120 #[Z.p bp, Z.i i] w fun e w' => ∃ v, e = .returned v ∧ ∃ (l : List Int) (A' : Option Addr) (c' : Nat), v = .slice A' l.length c' ∧ Rd w' A' (vals .i64 l) ∧ uK A' (vals .i64 l) w.heap.size ∧ Gs.uP cs l ∧ l.length ≤ n ∧ (Gs.kG cs i = true → l ≠ []) ∧ az no w w' := by
 refine YJ.calls ?_
 unfold YJ
 obtain ⟨hn, hcw, hcu, hp, hN, hb⟩ := id hW; have hrc := hW.rc
 obtain ⟨i0, rfl⟩ := Int.eq_ofNat_of_zero_le hi.1
 have hiC : 0 ≤ (i0 : Int) ∧ (i0 : Int) < cs.length := by omega
 have uA := au af
 have jP := Own.lt ae
 have hF : az no w w := Fr.refl _ _ _
 refine Z.x _ (fun b1 w1 e1 ah _ U1 => ?_)
 have jW : bp ≠ b1 := by have := au af; omega
 have gV := ae.apart e1
 have bU : w.heap.size ≤ b1 := by have := hF.size; omega
 refine Z.n (#[.slice none 0 0]) (fun b2 w2 e2 ax _ U2 => ?_)
 replace af := U1.ag af
 have fH : bp ≠ b2 := by have := au af; omega
 replace ae := ae.ai U1
 have dN := ae.apart e2
 have lJ : b1 ≠ b2 := by have := au ah; omega
 replace hF := hF.go0 U1
 have fF : w.heap.size ≤ b2 := by have := hF.size; omega
 replace ah := U2.ag ah
 refine Z.l ah ?_
 replace ae := ae.ai U2
 replace af := U2.ag af
 refine aG (tX af ae hn hN hb hcw (i := (i0 : Int))) (fun w3 U3 => ?_)
 refine Z.e ?_
 refine Z.e ?_
 refine Z.n ((Gs.fv Gs.zf).toArray) (fun b4 w4 e4 dh _ U4 => ?_)
 replace af := U3.ag af
 have mX : bp ≠ b4 := by have := au af; omega
 replace ae := ae.ai U3
 have kF := ae.apart e4
 replace ah := U3.ag ah
 have lu : b1 ≠ b4 := by have := au ah; omega
 replace ax := U3.ag ax
 have FN : b2 ≠ b4 := by have := au ax; omega
 replace hF := (hF.go0 U2).go0 U3
 have lV : w.heap.size ≤ b4 := by have := hF.size; omega
 refine Z.t 3 ((Gs.fv (Gs.mg cs (i0 : Int))).toArray) (by (simp [Value.cells, Value.oneCell', Gs.cv, Gs.fv, Gs.ie]; done)) dh (fun w5 dh _ U5 => ?_)
 refine bH (fun g w' => (Gs.mf cs (i0 : Int) = true) ∧ (Z.h w' b1 #[Z.i (i0 : Int)] 3) ∧ (Z.h w' b2 #[.slice none 0 0] 176) ∧ (Z.h w' b4 ((Gs.fv (Gs.mg cs (i0 : Int))).toArray) 173) ∧ (Z.h w' bp #[Z.i r, Z.i c, .slice A n cp, Z.i cur] 91) ∧ (Own B0 w' 37 5 (.slice A n cp) (rows Gs.cv cs)) ∧ (az no w w')) (fun J1 hJ1 => ?_) (fun gJ1 jX hI => ?_)
 refine aj (Ak _) ?_
 refine jZ (fun h6 => ?_) (fun h6 => ?_)
 refine bH (fun g w' => ∃ (v5 : Value) (l : List Int), (Z.h w' b2 #[v5] 176) ∧ (Own w.heap.size w' 3 1 v5 (vals .i64 l)) ∧ (Gs.uP cs l) ∧ (l.length + i0 = n) ∧ (az no w w')) (fun J2 hJ2 => ?_) (fun gJ2 RI hI => ?_)
 replace ae := (ae.ai U4).aA U5 kF
 replace af := U5.ak (U4.ag af) mX
 replace ah := U5.ak (U4.ag ah) lu
 replace ax := U5.ak (U4.ag ax) FN
 replace hF := (hF.go0 U4).go1 U5 lV
 have hob : Gs.mf cs (i0 : Int) = false := by cases hq : Gs.mf cs (i0 : Int) <;> simp_all
 refine Z.l ah ?_
 refine dW (fun g w' => ∃ (k : Nat) (v5 : Value) (l : List Int), (g 8 = Z.i (k : Int)) ∧ (i0 ≤ k ∧ k ≤ n) ∧ (Z.h w' b2 #[v5] 176) ∧ (Own w.heap.size w' 3 1 v5 (vals .i64 l)) ∧ (Gs.uP cs l) ∧ (l.length + i0 = k) ∧ (Z.h w' bp #[Z.i r, Z.i c, .slice A n cp, Z.i cur] 91) ∧ (Own B0 w' 37 5 (.slice A n cp) (rows Gs.cv cs)) ∧ (az no w w')) (fun g w' => n - (RowKit.intOf (g 8)).toNat) ?_ (fun g3 wl3 hI => ?_)
 exact ⟨i0, _, [], (by rfl), (by omega), ax, (Own.nil _ _ _ _), (Gs.uP.nil _), (by simp), af, ae, hF⟩
 obtain ⟨k, v5, l, g8, hk, ax, df, hrk, hll, af, ae, hF⟩ := hI
 rw [g8]
 refine aG (eY af ae hn) (fun w7 U7 => ?_)
 refine ay (lss _ _ _ _) (fun h8 => ?_) (fun h8 => ?_)
 refine aH ?_
 replace ax := U7.ag ax
 refine Z.l ax ?_
 refine dD (e := 3) (m := 1) (z := #[Z.i 0]) (by kernel_rfl) (by kernel_rfl) (by rfl) (by decide) (by (simp [eP, splice, gq, Value.cells, Gs.cv, Gs.fv, Gs.ie]; rfl)) (fun b9 w9 e9 jy _ U9 => ?_)
 have BO : b2 ≠ b9 := by have := au ax; omega
 replace df := df.ai U7
 have YK := df.apart e9
 replace af := U7.ag af
 have FM : bp ≠ b9 := by have := au af; omega
 replace ae := ae.ai U7
 have zy := ae.apart e9
 replace hF := hF.go0 U7
 have qc : w.heap.size ≤ b9 := by have := hF.size; omega
 replace df := df.ai U9
 replace hF := hF.go0 U9
 refine ji (e := 3) (size := 1) (bytes := 8) (by kernel_rfl) df (Rd.lI jy) rfl (by (simp [Value.oneCell']; done)) (by simp only [vals_length, List.length_take, List.length_cons, List.length_nil, List.length_append, List.length_map, List.length_range]; omega) (by have := hF.size; omega) (fun v10 w10 N10 hA10 aT => ?_)
 have iO := df
 have nc10_b9 : ∀ k, aC v10 k → k ≠ b9 := fun k hk e => Or.elim (hA10 k hk) (fun h => YK k h e) (fun h => by have := au jy; omega)
 replace ax := U9.ag ax
 replace ax := aT.get ax (fun h => Own.aP iO ax (by decide) _ h rfl)
 replace df := N10
 replace af := U9.ag af
 replace af := aT.get af (fun h => by (have := Own.ge iO h; omega))
 replace ae := ae.ai U9
 replace ae := ae.eH aT (fun k hk hs => by have := jP k hk; have := (Own.ge iO hs).1; omega)
 replace hF := hF.go aT (fun i h hs => by (have := (Own.ge iO hs).1; omega))
 clear iO
 refine mM (by kernel_rfl) (Own.DX df).1 (Own.DX df).2 ax (Nat.le_of_ble_eq_true rfl) (by (simp [tY]; rfl)) (fun oz ax _ bK => ?_)
 replace df := df.aA bK (Own.aP df (by assumption) (by decide))
 refine aj (dF _ (by omega)) ?_
 replace ae := ae.aA bK dN
 replace af := bK.ak af fH
 replace hF := hF.go1 bK fF
 exact ⟨⟨k + 1, _, _, (by rfl), (by omega), ax, (KJ df), (hrk.snoc (Gs.Su hiC hob (by omega))), (by simp only [List.length_append, List.length_cons, List.length_nil]; omega), af, ae, hF⟩, cnt_lt (by rfl) rfl (by omega)⟩
 refine aB ?_
 refine hJ2 _ _ ?_
 replace df := df.ai U7
 replace ax := U7.ag ax
 replace hF := hF.go0 U7
 exact ⟨_, _, ax, df, hrk, (by omega), hF⟩
 replace ax := U5.ak (U4.ag ax) FN
 replace hF := (hF.go0 U4).go1 U5 lV
 obtain ⟨v5, l, ax, df, hrk, hll, hF⟩ := hI
 refine Z.l ax ?_
 show lS [] _ _
 obtain ⟨A5, c5, rfl, Sv⟩ := df.bC
 exact ⟨_, rfl, l, _, _, rfl, Sv, .inr fun k hk => (df.G5 k hk).1, hrk, by omega, by (intro _ h; rw [h] at hll; simp only [List.length_nil] at hll; omega), hF⟩
 refine hJ1 _ _ ?_
 replace ae := (ae.ai U4).aA U5 kF
 replace af := U5.ak (U4.ag af) mX
 replace ah := U5.ak (U4.ag ah) lu
 replace ax := U5.ak (U4.ag ax) FN
 replace hF := (hF.go0 U4).go1 U5 lV
 exact ⟨(by cases hq : Gs.mf cs (i0 : Int) <;> simp_all), ah, ax, dh, af, ae, hF⟩
 replace ae := (ae.ai U4).aA U5 kF
 replace af := U5.ak (U4.ag af) mX
 replace ah := U5.ak (U4.ag ah) lu
 replace ax := U5.ak (U4.ag ax) FN
 replace hF := (hF.go0 U4).go1 U5 lV
 obtain ⟨hob, ah, ax, dh, af, ae, hF⟩ := hI
 refine bH (fun g w' => ∃ (D5 : Nat) (v5 : Value) (l : List Int), (g 1000000 = mkV D5 undef) ∧ (w.heap.size ≤ D5) ∧ (w'.heap[D5]? = some (.deferred (some []))) ∧ (Z.h w' b2 #[v5] 176) ∧ (Own w.heap.size w' 3 1 v5 (vals .i64 l)) ∧ (Gs.uP cs l) ∧ (l.length ≤ n) ∧ (Gs.kG cs (i0 : Int) = true → l ≠ []) ∧ (az no w w')) (fun J4 hJ4 => ?_) (fun gJ4 wJ4 hI => ?_)
 refine Z.b 3 ((Gs.fv (Gs.mg cs (i0 : Int))).toArray) dh ?_
 refine aJ (yV af ae hn (f := Gs.mg cs (i0 : Int))) (fun v14 sJ D14 => ?_)
 obtain ⟨b1_32, b2_32, rfl, g1_32, g2_32, fV, fZ, dw⟩ := D14
 have alf : b1 ≠ b1_32 := by have := au ah; omega
 have JH : b2 ≠ b1_32 := by have := au ax; omega
 have alg : b4 ≠ b1_32 := by have := au dh; omega
 have alh : bp ≠ b1_32 := by have := au af; omega
 have ahn : ∀ k, aC _ k → k ≠ b1_32 := fun k hk => by have := (Own.ge ae hk).2; omega
 have aos : w.heap.size ≤ b1_32 := by have := hF.size; omega
 have ali : b1 ≠ b2_32 := by have := au ah; omega
 have JI : b2 ≠ b2_32 := by have := au ax; omega
 have alj : b4 ≠ b2_32 := by have := au dh; omega
 have alk : bp ≠ b2_32 := by have := au af; omega
 have aho : ∀ k, aC _ k → k ≠ b2_32 := fun k hk => by have := (Own.ge ae hk).2; omega
 have aot : w.heap.size ≤ b2_32 := by have := hF.size; omega
 refine tZ (by kernel_rfl) (fun uN l5 D5 Rdy5 Bsy5 Dn5 y5 eD el dO ed lp1 lp2 lp3 sz15 dH hY => ?_)
 have lp2_5 := lp2
 replace ah := dw.ag ah
 have Sz : b1 ≠ D5 := by have := au ah; omega
 have mi : b1 ≠ l5 := by have := au ah; omega
 replace ax := dw.ag ax
 have SA : b2 ≠ D5 := by have := au ax; omega
 have vF : b2 ≠ l5 := by have := au ax; omega
 replace dh := dw.ag dh
 have aou : b4 ≠ D5 := by have := au dh; omega
 have aov : b4 ≠ l5 := by have := au dh; omega
 replace af := dw.ag af
 have SB : bp ≠ D5 := by have := au af; omega
 have lK : bp ≠ l5 := by have := au af; omega
 replace ae := ae.ai dw
 have zA : ∀ k, aC _ k → k ≠ D5 := fun k hk => by have := (Own.ge ae hk).2; omega
 have ja : ∀ k, aC _ k → k ≠ l5 := fun k hk => by have := (Own.ge ae hk).2; omega
 have alm : b1_32 ≠ D5 := by have := au fV; omega
 have uB : b1_32 ≠ l5 := by have := au fV; omega
 have aln : b2_32 ≠ D5 := by have := au fZ; omega
 have uC : b2_32 ≠ l5 := by have := au fZ; omega
 replace hF := hF.go0 dw
 have yc : w.heap.size ≤ D5 := by have := hF.size; omega
 have qf : w.heap.size ≤ l5 := by have := hF.size; omega
 have lw : D5 ≠ l5 := by omega
 replace ae := ae.ai dH
 replace ah := dH.ag ah
 replace ax := dH.ag ax
 replace af := dH.ag af
 replace fV := dH.ag fV
 replace fZ := dH.ag fZ
 replace hF := hF.go0 dH
 refine Calls.mono (BP (b1 := b1_32) (b2 := b2_32) (J := (fun (k : Nat) (w' : World) => ∃ (v5 : Value) (l : List Int), (Z.h w' b2 #[v5] 176) ∧ (Own w.heap.size w' 3 1 v5 (vals .i64 l)) ∧ (Gs.uP cs l) ∧ (l.length ≤ k) ∧ (∀ j, j < k → (Gs.dZ n (Gs.mg cs (i0 : Int)))[j]? = some (i0 : Int) → l ≠ []) ∧ (¬ aC v5 b1) ∧ (Z.h w' b1 #[Z.i (i0 : Int)] 3) ∧ (Z.h w' bp #[Z.i r, Z.i c, .slice A n cp, Z.i cur] 91) ∧ (Own B0 w' 37 5 (.slice A n cp) (rows Gs.cv cs)) ∧ (Z.h w' b1_32 #[Z.p bp] 33) ∧ (Z.h w' b2_32 ((Gs.fv (Gs.mg cs (i0 : Int))).toArray) 173) ∧ (w'.heap[D5]? = some (.deferred (some []))) ∧ (w'.heap[l5]? = some Rdy5) ∧ (az no w w'))) (X := (fun _ => False)) (fun _ w' hJ => by obtain ⟨v5, l, ax, df, hrk, hll, hnz, hs3, ah, af, ae, fV, fZ, dO, ed, hF⟩ := hJ; exact ⟨fV, fZ, af, ae⟩) (fun _ w' w'' hJ U' => by obtain ⟨v5, l, ax, df, hrk, hll, hnz, hs3, ah, af, ae, fV, fZ, dO, ed, hF⟩ := hJ; exact ⟨v5, l, U'.ag ax, df.ai U', hrk, hll, hnz, hs3, U'.ag ah, U'.ag af, ae.ai U', U'.ag fV, U'.ag fZ, U'.ag dO, U'.ag ed, hF.go0 U'⟩) (fun _ _ h _ => h.elim) (fun _ h => h.elim) hn hN hb ?_ ?_) ?_
 intro k wl5 xk hx hI
 obtain ⟨v5, l, ax, df, hrk, hll, hnz, hs3, ah, af, ae, fV, fZ, dO, ed, hF⟩ := hI
 obtain ⟨A5, c5, rfl, _⟩ := df.bC
 have hk := (List.getElem?_eq_some_iff.1 hx).1
 have hxb := Gs.FO hx
 have hple := Gs.xJ n (Gs.mg cs (i0 : Int))
 refine hY [Z.i xk] _ _ rfl ed ?_
 simp only [List.getD_cons_zero, List.getD_cons_succ]
 refine wM ed (fun w16 ed _ bZ => ?_)
 replace df := df.aA bZ (Own.iY df (by assumption) (by assumption))
 replace ah := bZ.ak ah mi
 refine Z.l ah ?_
 refine ay (dC _ _ _ _ _) (fun h17 => ?_) (fun h17 => ?_)
 refine bI (bI (bI (bu (aH ?_))))
 replace ax := bZ.ak ax vF
 refine Z.l ax ?_
 refine dD (e := 3) (m := 1) (z := #[Z.i 0]) (by kernel_rfl) (by kernel_rfl) (by rfl) (by decide) (by (simp [eP, splice, gq, Value.cells, Gs.cv, Gs.fv, Gs.ie]; rfl)) (fun b18 uY e18 YL _ dE => ?_)
 have ano : b2 ≠ b18 := by have := au ax; omega
 have VG := df.apart e18
 have abB : b1 ≠ b18 := by have := au ah; omega
 replace af := bZ.ak af lK
 have anp : bp ≠ b18 := by have := au af; omega
 replace ae := ae.aA bZ ja
 have ajl := ae.apart e18
 replace fV := bZ.ak fV uB
 have ajm : b1_32 ≠ b18 := by have := au fV; omega
 replace fZ := bZ.ak fZ uC
 have ajn : b2_32 ≠ b18 := by have := au fZ; omega
 replace dO := bZ.ak dO lw
 have anq : D5 ≠ b18 := by have := au dO; omega
 have anr : l5 ≠ b18 := by have := au ed; omega
 replace hF := hF.go1 bZ qf
 have ajo : w.heap.size ≤ b18 := by have := hF.size; omega
 replace df := df.ai dE
 replace hF := hF.go0 dE
 refine ji (e := 3) (size := 1) (bytes := 8) (by kernel_rfl) df (Rd.lI YL) rfl (by (simp [Value.oneCell']; done)) (by simp only [vals_length, List.length_take, List.length_cons, List.length_nil, List.length_append, List.length_map, List.length_range]; omega) (by have := hF.size; omega) (fun v19 yK N19 hA19 eu => ?_)
 have iO := df
 replace ah := dE.ag ah
 have ant := SC (S' := uY) hs3 ah hA19
 have aow : ∀ k, aC v19 k → k ≠ b18 := fun k hk e => Or.elim (hA19 k hk) (fun h => VG k h e) (fun h => by have := au YL; omega)
 replace ax := dE.ag ax
 replace ax := eu.get ax (fun h => Own.aP iO ax (by decide) _ h rfl)
 replace df := N19
 replace ah := eu.get ah hs3
 replace af := dE.ag af
 replace af := eu.get af (fun h => by (have := Own.ge iO h; omega))
 replace ae := ae.ai dE
 replace ae := ae.eH eu (fun k hk hs => by have := jP k hk; have := (Own.ge iO hs).1; omega)
 replace fV := dE.ag fV
 replace fV := eu.get fV (fun h => Own.aP iO fV (by decide) _ h rfl)
 replace fZ := dE.ag fZ
 replace fZ := eu.get fZ (fun h => Own.aP iO fZ (by decide) _ h rfl)
 replace dO := dE.ag dO
 replace dO := eu.get dO (fun h => Own.lh iO dO _ h rfl)
 replace ed := dE.ag ed
 replace ed := eu.get ed (fun h => Own.iY iO ed (by assumption) _ h rfl)
 replace hF := hF.go eu (fun i h hs => by (have := (Own.ge iO hs).1; omega))
 clear iO
 refine mM (by kernel_rfl) (Own.DX df).1 (Own.DX df).2 ax (Nat.le_of_ble_eq_true rfl) (by (simp [tY]; rfl)) (fun wE ax _ dJ => ?_)
 replace df := df.aA dJ (Own.aP df (by assumption) (by decide))
 replace ed := dJ.ak ed (Ne.symm vF)
 refine rP ed (fun BD ed _ dL => ?_)
 replace ae := ae.aA dJ dN
 replace ah := dJ.ak ah lJ
 replace af := dJ.ak af fH
 replace fV := dJ.ak fV (Ne.symm JH)
 replace fZ := dJ.ak fZ (Ne.symm JI)
 replace dO := dJ.ak dO (Ne.symm SA)
 replace hF := hF.go1 dJ fF
 replace df := df.aA dL (Own.iY df (by assumption) (by assumption))
 replace ae := ae.aA dL ja
 replace ax := dL.ak ax vF
 replace ah := dL.ak ah mi
 replace af := dL.ak af lK
 replace fV := dL.ak fV uB
 replace fZ := dL.ak fZ uC
 replace dO := dL.ak dO lw
 replace hF := hF.go1 dL qf
 exact ⟨_, _, ax, (by exact KJ df), (by exact hrk.snoc (Gs.row_in hiC hob (by rw [← hn]; exact hx))), (by (try simp only [List.length_append, List.length_cons, List.length_nil]); omega), (by intro j hj hji; (simp; done)), (by assumption), ah, af, ae, fV, fZ, dO, ed, hF⟩
 refine bP ?_
 replace ax := bZ.ak ax vF
 refine Z.l ax ?_
 refine bP ?_
 refine aj (gm (by kernel_rfl) _ _ _) ?_
 refine bP ?_
 refine ay (gtr _ _ _ _) (fun h22 => ?_) (fun h22 => ?_)
 refine bG (aH ?_)
 refine Z.l ax ?_
 refine dD (e := 3) (m := 1) (z := #[Z.i 0]) (by kernel_rfl) (by kernel_rfl) (by rfl) (by decide) (by (simp [eP, splice, gq, Value.cells, Gs.cv, Gs.fv, Gs.ie]; rfl)) (fun b23 AB e23 uQ _ eF => ?_)
 have anu : b2 ≠ b23 := by have := au ax; omega
 have VH := df.apart e23
 have anv : b1 ≠ b23 := by have := au ah; omega
 replace af := bZ.ak af lK
 have Du : bp ≠ b23 := by have := au af; omega
 replace ae := ae.aA bZ ja
 have yf := ae.apart e23
 replace fV := bZ.ak fV uB
 have ajp : b1_32 ≠ b23 := by have := au fV; omega
 replace fZ := bZ.ak fZ uC
 have ajq : b2_32 ≠ b23 := by have := au fZ; omega
 replace dO := bZ.ak dO lw
 have anw : D5 ≠ b23 := by have := au dO; omega
 have anx : l5 ≠ b23 := by have := au ed; omega
 replace hF := hF.go1 bZ qf
 have L8 : w.heap.size ≤ b23 := by have := hF.size; omega
 replace df := df.ai eF
 replace hF := hF.go0 eF
 refine ji (e := 3) (size := 1) (bytes := 8) (by kernel_rfl) df (Rd.lI uQ) rfl (by (simp [Value.oneCell']; done)) (by simp only [vals_length, List.length_take, List.length_cons, List.length_nil, List.length_append, List.length_map, List.length_range]; omega) (by have := hF.size; omega) (fun v24 Po N24 hA24 jm => ?_)
 have iO := df
 replace ah := eF.ag ah
 have anz := SC (S' := AB) hs3 ah hA24
 have aox : ∀ k, aC v24 k → k ≠ b23 := fun k hk e => Or.elim (hA24 k hk) (fun h => VH k h e) (fun h => by have := au uQ; omega)
 replace ax := eF.ag ax
 replace ax := jm.get ax (fun h => Own.aP iO ax (by decide) _ h rfl)
 replace df := N24
 replace ah := jm.get ah hs3
 replace af := eF.ag af
 replace af := jm.get af (fun h => by (have := Own.ge iO h; omega))
 replace ae := ae.ai eF
 replace ae := ae.eH jm (fun k hk hs => by have := jP k hk; have := (Own.ge iO hs).1; omega)
 replace fV := eF.ag fV
 replace fV := jm.get fV (fun h => Own.aP iO fV (by decide) _ h rfl)
 replace fZ := eF.ag fZ
 replace fZ := jm.get fZ (fun h => Own.aP iO fZ (by decide) _ h rfl)
 replace dO := eF.ag dO
 replace dO := jm.get dO (fun h => Own.lh iO dO _ h rfl)
 replace ed := eF.ag ed
 replace ed := jm.get ed (fun h => Own.iY iO ed (by assumption) _ h rfl)
 replace hF := hF.go jm (fun i h hs => by (have := (Own.ge iO hs).1; omega))
 clear iO
 refine mM (by kernel_rfl) (Own.DX df).1 (Own.DX df).2 ax (Nat.le_of_ble_eq_true rfl) (by (simp [tY]; rfl)) (fun Hy ax _ iD => ?_)
 replace df := df.aA iD (Own.aP df (by assumption) (by decide))
 replace ed := iD.ak ed (Ne.symm vF)
 refine rP ed (fun Pq ed _ jM => ?_)
 replace ae := ae.aA iD dN
 replace ah := iD.ak ah lJ
 replace af := iD.ak af fH
 replace fV := iD.ak fV (Ne.symm JH)
 replace fZ := iD.ak fZ (Ne.symm JI)
 replace dO := iD.ak dO (Ne.symm SA)
 replace hF := hF.go1 iD fF
 replace df := df.aA jM (Own.iY df (by assumption) (by assumption))
 replace ae := ae.aA jM ja
 replace ax := jM.ak ax vF
 replace ah := jM.ak ah mi
 replace af := jM.ak af lK
 replace fV := jM.ak fV uB
 replace fZ := jM.ak fZ uC
 replace dO := jM.ak dO lw
 replace hF := hF.go1 jM qf
 exact ⟨_, _, ax, (by exact KJ df), (by exact hrk.snoc (Gs.row_in hiC hob (by rw [← hn]; exact hx))), (by (try simp only [List.length_append, List.length_cons, List.length_nil]); omega), (by intro j hj hji; (simp; done)), (by assumption), ah, af, ae, fV, fZ, dO, ed, hF⟩
 refine bG (aB ?_)
 refine rP ed (fun Ic ed _ ig => ?_)
 replace ae := ae.aA bZ ja
 replace af := bZ.ak af lK
 replace fV := bZ.ak fV uB
 replace fZ := bZ.ak fZ uC
 replace dO := bZ.ak dO lw
 replace hF := hF.go1 bZ qf
 replace df := df.aA ig (Own.iY df (by assumption) (by assumption))
 replace ae := ae.aA ig ja
 replace ax := ig.ak ax vF
 replace ah := ig.ak ah mi
 replace af := ig.ak af lK
 replace fV := ig.ak fV uB
 replace fZ := ig.ak fZ uC
 replace dO := ig.ak dO lw
 replace hF := hF.go1 ig qf
 exact ⟨_, _, ax, (by exact df), (by exact hrk), (by (try simp only [List.length_append, List.length_cons, List.length_nil]); omega), (by intro j hj hji; (rcases Nat.lt_succ_iff_lt_or_eq.1 hj with h | rfl; exact hnz j h hji; rw [hx] at hji; cases hji; contradiction)), (by assumption), ah, af, ae, fV, fZ, dO, ed, hF⟩
 exact ⟨_, [], ax, (Own.nil _ _ _ _), (Gs.uP.nil _), (Nat.le_refl _), (fun _ h => absurd h (Nat.not_lt_zero _)), YM, ah, af, ae, fV, fZ, dO, ed, hF⟩
 rintro e wE5 ⟨hv, hI | hI⟩
 obtain ⟨v5, l, ax, df, hrk, hll, hnz, hs3, ah, af, ae, fV, fZ, dO, ed, hF⟩ := hI
 refine ⟨hv, .inl ⟨ed, fun PD _ jJ => ?_⟩⟩
 replace df := df.aA jJ (Own.iY df (by assumption) (by assumption))
 refine hJ4 _ _ ?_
 replace ax := jJ.ak ax vF
 replace dO := jJ.ak dO lw
 replace hF := hF.go1 jJ qf
 exact ⟨_, _, _, (by rfl), yc, dO, ax, df, hrk, (by have := Gs.xJ n (Gs.mg cs (i0 : Int)); omega), (fun ho => by obtain ⟨j, hj⟩ := Gs.ajr ho hob; rw [← hn] at hj; exact hnz j (List.getElem?_eq_some_iff.1 hj).1 hj), hF⟩
 exact hI.elim
 obtain ⟨D5, v5, l, g1000000, yc, dO, ax, df, hrk, hll, hnz, hF⟩ := hI
 rw [g1000000]
 refine Z.l ax ?_
 refine leave1 dO (fun w30 _ rX => ?_)
 replace df := df.aA rX (Own.lh df (by assumption))
 obtain ⟨A5, c5, rfl, Sv⟩ := df.bC
 replace hF := hF.go1 rX yc
 exact ⟨_, rfl, l, _, _, rfl, Sv, .inr fun k hk => (df.G5 k hk).1, hrk, by omega, by exact hnz, hF⟩
theorem KL {r c cur : Int} {A : Option Addr} {n cp bp B0 b1 : Nat} {cs : List Gs.Cell} {w : World} (af : Z.h w bp #[Z.i r, Z.i c, .slice A n cp, Z.i cur] 91) (ae : Own B0 w 37 5 (.slice A n cp) (rows Gs.cv cs)) (hW : Gs.Pw r c n cs cur) (ah : Z.h w b1 #[Z.p bp] 33) {i : Int} :
    oX 122 #[Z.i i, Z.p b1] w fun e w' => ∃ v, e = .returned v ∧ ∃ q : Bool, v = .bool q ∧ az no w w' := by
 refine YN.calls ?_
 unfold YN
 obtain ⟨hn, hcw, hcu, hp, hN, hb⟩ := id hW; have hrc := hW.rc
 have hF : az no w w := Fr.refl _ _ _
 refine Z.l ah ?_
 refine aG (iI af ae hn (i := i)) (fun w1 U1 => ?_)
 refine aj (tH (off := 0) (by kernel_rfl) (by rfl)) ?_
 refine ay (dC _ _ _ _ _) (fun h2 => ?_) (fun h2 => ?_)
 refine bD ?_
 replace ah := U1.ag ah
 refine Z.l ah ?_
 refine bD (bD ?_)
 replace ae := ae.ai U1
 replace af := U1.ag af
 refine aG (iI af ae hn (i := i)) (fun w3 U3 => ?_)
 refine bD ?_
 refine aj (tH (off := 1) (by kernel_rfl) (by rfl)) ?_
 refine bD ?_
 refine aj (Ak _) ?_
 refine bu ?_
 replace hF := (hF.go0 U1).go0 U3
 exact ⟨_, rfl, _, rfl, hF⟩
 refine bf (bf (bf (bf (bf (bG ?_)))))
 replace hF := hF.go0 U1
 exact ⟨_, rfl, _, rfl, hF⟩
theorem VI {r c cur : Int} {A : Option Addr} {n cp bp B0 b1 : Nat} {cs : List Gs.Cell} {w : World} (af : Z.h w bp #[Z.i r, Z.i c, .slice A n cp, Z.i cur] 91) (ae : Own B0 w 37 5 (.slice A n cp) (rows Gs.cv cs)) (hW : Gs.Pw r c n cs cur) (ah : Z.h w b1 #[Z.p bp] 33) {l : List Int} {A1 : Option Addr} {n1 c1 : Nat} (bC : Rd w A1 (vals .i64 l)) (hl1 : n1 = l.length) (hlb : n1 ≤ 4096) :
    oX 121 #[.slice A1 n1 c1, .func (.func 122) #[] #[Z.p b1]] w fun e w' => ∃ v, e = .returned v ∧ ∃ q : Int, v = Z.i q ∧ (-1 ≤ q ∧ q < n1) ∧ az no w w' := by
 refine YO.calls ?_
 unfold YO
 obtain ⟨hn, hcw, hcu, hp, hN, hb⟩ := id hW; have hrc := hW.rc
 have hF : az no w w := Fr.refl _ _ _
 refine bH (fun g w' => (az no w w')) (fun J1 hJ1 => ?_) (fun gJ1 jX hI => ?_)
 refine aj (gm (by kernel_rfl) _ _ _) ?_
 refine dW (fun g w' => ∃ (k : Nat), (g 8 = Z.i (k : Int)) ∧ (k ≤ n1) ∧ (Z.h w' bp #[Z.i r, Z.i c, .slice A n cp, Z.i cur] 91) ∧ (Own B0 w' 37 5 (.slice A n cp) (rows Gs.cv cs)) ∧ (Z.h w' b1 #[Z.p bp] 33) ∧ (Rd w' A1 (vals .i64 l)) ∧ (az no w w')) (fun g w' => n1 - (RowKit.intOf (g 8)).toNat) ?_ (fun g2 qj hI => ?_)
 exact ⟨0, (by rfl), Nat.zero_le _, af, ae, ah, bC, hF⟩
 obtain ⟨k, g8, hk, af, ae, ah, bC, hF⟩ := hI
 rw [g8]
 refine ay (lss _ _ _ _) (fun h1 => ?_) (fun h1 => ?_)
 refine aH ?_
 refine mJ (by kernel_rfl) (by kernel_rfl) bC (by assumption) (by omega) (by omega) (fun x2 hx2 => ?_)
 simp only [Int.toNat_natCast] at hx2
 refine PE (by kernel_rfl) (by rfl) (aJ (KL af ae hW ah) (fun v3 w3 D3 => ?_))
 obtain ⟨q16, rfl, U3⟩ := D3
 refine jZ (fun h4 => ?_) (fun h4 => ?_)
 replace hF := hF.go0 U3
 exact ⟨_, rfl, _, rfl, by omega, hF⟩
 refine aj (dF _ (by omega)) ?_
 replace ae := ae.ai U3
 replace bC := bC.ai U3
 replace af := U3.ag af
 replace ah := U3.ag ah
 replace hF := hF.go0 U3
 exact ⟨⟨k + 1, (by rfl), by omega, af, ae, ah, bC, hF⟩, cnt_lt (by rfl) rfl (by omega)⟩
 refine aB ?_
 refine hJ1 _ _ ?_
 exact hF
 have hF := hI
 exact ⟨_, rfl, _, rfl, by omega, hF⟩
theorem Oh {r c cur : Int} {A : Option Addr} {n cp bp B0 : Nat} {cs : List Gs.Cell} {w : World} (af : Z.h w bp #[Z.i r, Z.i c, .slice A n cp, Z.i cur] 91) (ae : Own B0 w 37 5 (.slice A n cp) (rows Gs.cv cs)) (hW : Gs.Pw r c n cs cur)  :
    oX 72 #[Z.p bp] w fun e w' => ∃ v, e = .returned v ∧ ∃ (q : Int) (c1 : List Gs.Cell), v = Z.i q ∧ Gs.Pw r c n c1 cur ∧ Gs.Kp cs c1 ∧ (q ≠ 0 → c1 = cs) ∧ Own B0 w' 37 5 (.slice A n cp) (rows Gs.cv c1) ∧ az (aC (.slice A n cp)) w w' := by
 refine F72.calls ?_
 unfold F72
 obtain ⟨hn, hcw, hcu, hp, hN, hb⟩ := id hW; have hrc := hW.rc
 have hk0 := Gs.Kp.refl cs
 have hF : az (aC (.slice A n cp)) w w := Fr.refl _ _ _
 refine Z.x _ (fun b1 w1 e1 ah _ U1 => ?_)
 have gV := ae.apart e1
 refine dQ (S := no) (fun w2 U2 => ?_)
 replace ah := U2.ag ah
 refine Z.m ah ?_
 refine Z.m ah ?_
 replace ae := (ae.ai U1).ai U2
 replace af := U2.ag (U1.ag af)
 refine fU (fun w' hw' => by have af := hw'.ag af; have ae := ae.ai hw'; exact gz af ae hn) ?_
 refine aF (fun w4 U4 => ?_)
 replace ae := ae.ai U4
 replace af := U4.ag af
 refine aJ (Ii af ae hW hcu) (fun v5 w5 D5 => ?_)
 obtain ⟨l8, A8, c8, rfl, rd8, gA8, hr8, hl8, ho8, U5⟩ := D5
 have SE : _ ∨ ∀ k, _ → ¬ aC _ k := gA8.imp_right fun h k hk hs => by have := h k hk; have := (Own.ge ae hs).2; omega
 refine aF (fun w6 U6 => ?_)
 refine aj (mkF _ _ _) ?_
 replace ah := U6.ag (U5.ag (U4.ag ah))
 replace ae := (ae.ai U5).ai U6
 replace af := U6.ag (U5.ag af)
 replace rd8 := rd8.ai U6
 refine aJ (VI af ae hW ah rd8 rfl (by omega)) (fun v7 w7 D7 => ?_)
 obtain ⟨q11, rfl, hq11, U7⟩ := D7
 refine ay (lss _ _ _ _) (fun h8 => ?_) (fun h8 => ?_)
 refine aH ?_
 replace hF := (((((hF.go0 U1).go0 U2).go0 U4).go0 U5).go0 U6).go0 U7
 replace ae := ae.ai U7
 exact ⟨_, rfl, _, _, rfl, hW, hk0, (fun _ => rfl), ae, hF⟩
 refine aB ?_
 refine bH (fun g w' => ∃ (c1 : List Gs.Cell), (Gs.Kp cs c1) ∧ (Gs.Pw r c n c1 cur) ∧ (Own B0 w' 37 5 (.slice A n cp) (rows Gs.cv c1)) ∧ (az (aC (.slice A n cp)) w w')) (fun J1 hJ1 => ?_) (fun gJ1 jX hI => ?_)
 refine dW (fun g w' => ∃ (k : Nat) (c1 : List Gs.Cell), (g 4 = Z.i (k : Int)) ∧ (k < l8.length) ∧ (Gs.Kp cs c1) ∧ (Gs.Pw r c n c1 cur) ∧ (Z.h w' bp #[Z.i r, Z.i c, .slice A n cp, Z.i cur] 91) ∧ (Own B0 w' 37 5 (.slice A n cp) (rows Gs.cv c1)) ∧ (Z.h w' b1 #[Z.p bp] 33) ∧ (Rd w' A8 (vals .i64 l8)) ∧ (vals .i64 l8 = [] ∨ ∀ k, fO A8 k → ¬ aC (.slice A n cp) k) ∧ (az (aC (.slice A n cp)) w w')) (fun g w' => (RowKit.intOf (g 4)).toNat) ?_ (fun g2 qj hI => ?_)
 replace hF := (((((hF.go0 U1).go0 U2).go0 U4).go0 U5).go0 U6).go0 U7
 replace ae := ae.ai U7
 replace rd8 := rd8.ai U7
 replace af := U7.ag af
 replace ah := U7.ag ah
 exact ⟨q11.toNat, cs, (congrArg (Value.int .i64) (by omega)), (by omega), hk0, hW, af, ae, ah, rd8, (by assumption), hF⟩
 replace hF := (((((hF.go0 U1).go0 U2).go0 U4).go0 U5).go0 U6).go0 U7
 replace ae := ae.ai U7
 replace rd8 := rd8.ai U7
 replace af := U7.ag af
 replace ah := U7.ag ah
 obtain ⟨k, c1, g4, hk, hk1, hW1, af, ae, ah, rd8, na_rd8, hF⟩ := hI
 rw [g4]
 refine ay (gtr _ _ _ _) (fun h10 => ?_) (fun h10 => ?_)
 refine aH ?_
 refine dQ (S := no) (fun oz bK => ?_)
 replace ah := bK.ag ah
 refine Z.m ah ?_
 replace rd8 := rd8.ai bK
 refine nD (by kernel_rfl) (by kernel_rfl) (fun w' hw' => rd8.ai hw') (Fr.refl _ _ _) (by rfl) (by omega) (by omega) (fun x12 Ob => ?_)
 simp only [Int.toNat_natCast] at Ob
 refine Z.m ah ?_
 refine bi (fun w' hw' => (vZ _ (by omega))) ?_
 refine nD (by kernel_rfl) (by kernel_rfl) (fun w' hw' => rd8.ai hw') (Fr.refl _ _ _) (by rfl) (by omega) (by omega) (fun WN BQ => ?_)
 replace ae := ae.ai bK
 replace af := bK.ag af
 refine fU (fun w' hw' => by have af := hw'.ag af; have ae := ae.ai hw'; exact iI af ae hW1.1 (i := WN)) ?_
 refine aF (fun uN dH => ?_)
 replace ae := ae.ai dH
 replace af := dH.ag af
 refine aJ (jG af ae hW1.1 (i := x12) (x := Gs.bJ c1 WN)) (fun v16 w16 D16 => ?_)
 obtain ⟨rfl, N16, bZ⟩ := D16
 have aK := ae
 replace af := bZ.get af (fun h => Own.aP aK af (by decide) _ h rfl)
 replace ae := N16
 replace ah := dH.ag ah
 replace ah := bZ.get ah (fun h => gV _ h rfl)
 replace rd8 := rd8.ai dH
 replace rd8 := rd8.eH bZ SE
 replace hF := (hF.go0 bK).go0 dH
 replace hF := hF.go bZ (fun i h hs => by exact hs)
 clear aK
 refine aF (fun uo bY => ?_)
 refine aj (vZ _ (by omega)) ?_
 replace ae := ae.ai bY
 replace rd8 := rd8.ai bY
 replace af := bY.ag af
 replace ah := bY.ag ah
 replace hF := hF.go0 bY
 exact ⟨⟨k - 1, _, (congrArg (Value.int .i64) (by omega)), (by omega), (hk1.set (hr8.get Ob).2 (((hk1.2 _).1).trans (hr8.get BQ).2)), (hW1.set _ (Gs.qY hW1.2.1 _)), af, ae, ah, rd8, (by assumption), hF⟩, ajs (by rfl) rfl (by omega)⟩
 refine aB ?_
 refine hJ1 _ _ ?_
 exact ⟨_, hk1, hW1, ae, hF⟩
 replace hF := (((((hF.go0 U1).go0 U2).go0 U4).go0 U5).go0 U6).go0 U7
 replace ae := ae.ai U7
 obtain ⟨c1, hk1, hW1, ae, hF⟩ := hI
 exact ⟨_, rfl, _, _, rfl, hW1, hk1, (fun h => absurd rfl h), ae, hF⟩
theorem SG {r c cur : Int} {A : Option Addr} {n cp bp B0 : Nat} {cs : List Gs.Cell} {w : World} (af : Z.h w bp #[Z.i r, Z.i c, .slice A n cp, Z.i cur] 91) (ae : Own B0 w 37 5 (.slice A n cp) (rows Gs.cv cs)) (hW : Gs.Pw r c n cs cur) {x : Int} (hxb : 0 ≤ x ∧ x ≤ 255) :
    oX 71 #[Z.p bp, Z.u x] w fun e w' => ∃ v, e = .returned v ∧ ∃ q : Int, v = Z.i q ∧ (q = 0 → Gs.kG cs cur = true) ∧ az no w w' := by
 refine WO.calls ?_
 unfold WO
 obtain ⟨hn, hcw, hcu, hp, hN, hb⟩ := id hW; have hrc := hW.rc
 have hF : az no w w := Fr.refl _ _ _
 refine aG (gz af ae hn) (fun w1 U1 => ?_)
 replace ae := ae.ai U1
 replace af := U1.ag af
 refine aG (tX af ae hn hN hb hcw (i := cur)) (fun w2 U2 => ?_)
 cases hob : Gs.mf cs cur
 refine Z.e ?_
 refine Z.e ?_
 refine Z.n ((Gs.fv Gs.zf).toArray) (fun b3 w3 e3 aS _ U3 => ?_)
 replace af := U2.ag af
 have jO : bp ≠ b3 := by have := au af; omega
 replace ae := ae.ai U2
 have gU := ae.apart e3
 replace hF := (hF.go0 U1).go0 U2
 have jk : w.heap.size ≤ b3 := by have := hF.size; omega
 refine Z.t 3 ((Gs.fv (Gs.mg cs cur)).toArray) (by (simp [Value.cells, Value.oneCell', Gs.cv, Gs.fv, Gs.ie]; done)) aS (fun w4 N4 _ U4 => ?_)
 replace ae := (ae.ai U3).aA U4 gU
 replace af := U4.ak (U3.ag af) jO
 refine aG (gz af ae hn) (fun w5 U5 => ?_)
 replace ae := ae.ai U5
 replace af := U5.ag af
 refine dS (nN af ae hn hN hb hcw (i := cur)) (fun w6 U6 h6 => ?_) (fun w6 U6 h6 => ?_)
 refine aj (lX) ?_
 refine aB (bf (bf (bf (bG (bf (bf (bf (bG (aB ?_)))))))))
 replace hF := (((hF.go0 U3).go1 U4 jk).go0 U5).go0 U6
 exact ⟨_, rfl, _, rfl, by exact fun _ => by assumption, hF⟩
 refine aj (mV) ?_
 refine aH ?_
 replace hF := (((hF.go0 U3).go1 U4 jk).go0 U5).go0 U6
 exact ⟨_, rfl, _, rfl, by exact fun h => absurd h (by decide), hF⟩
 refine Z.e ?_
 refine Z.e ?_
 refine Z.n ((Gs.fv Gs.zf).toArray) (fun b9 w9 e9 jy _ U9 => ?_)
 replace af := U2.ag af
 have FM : bp ≠ b9 := by have := au af; omega
 replace ae := ae.ai U2
 have zy := ae.apart e9
 replace hF := (hF.go0 U1).go0 U2
 have qc : w.heap.size ≤ b9 := by have := hF.size; omega
 refine Z.t 3 ((Gs.fv (Gs.mg cs cur)).toArray) (by (simp [Value.cells, Value.oneCell', Gs.cv, Gs.fv, Gs.ie]; done)) jy (fun w10 jy _ aT => ?_)
 replace ae := (ae.ai U9).aA aT zy
 replace af := aT.ak (U9.ag af) FM
 refine aG (gz af ae hn) (fun oz bK => ?_)
 replace ae := ae.ai bK
 replace af := bK.ag af
 refine dS (nN af ae hn hN hb hcw (i := cur)) (fun w12 cZ h12 => ?_) (fun w12 cZ h12 => ?_)
 refine aj (lX) ?_
 refine aB (bD ?_)
 refine Z.f 2 ?_
 refine bD ?_
 replace jy := cZ.ag (bK.ag jy)
 refine Z.l jy ?_
 refine bD ?_
 refine dS (yU (Gs.YF hcw cur)) (fun uM dI h13 => ?_) (fun uM dI h13 => ?_)
 simp only [Z.d, Z.c] at h13
 refine bu (bD (bD ?_))
 refine dS (L6 hxb) (fun sJ dw h14 => ?_) (fun sJ dw h14 => ?_)
 simp only [Z.d, Z.c] at h14
 refine bD ?_
 refine aj (lX) ?_
 refine bu (aB ?_)
 replace hF := (((((hF.go0 U9).go1 aT qc).go0 bK).go0 cZ).go0 dI).go0 dw
 exact ⟨_, rfl, _, rfl, by exact fun _ => by assumption, hF⟩
 simp only [Z.d, Z.c] at h14
 refine bD ?_
 refine aj (mV) ?_
 refine bu (aH ?_)
 replace hF := (((((hF.go0 U9).go1 aT qc).go0 bK).go0 cZ).go0 dI).go0 dw
 exact ⟨_, rfl, _, rfl, by exact fun _ => by assumption, hF⟩
 simp only [Z.d, Z.c] at h13
 refine bu (bf (bf (bf (bG (aB ?_)))))
 replace hF := ((((hF.go0 U9).go1 aT qc).go0 bK).go0 cZ).go0 dI
 exact ⟨_, rfl, _, rfl, by exact fun _ => by assumption, hF⟩
 refine aj (mV) ?_
 refine aH ?_
 replace hF := (((hF.go0 U9).go1 aT qc).go0 bK).go0 cZ
 exact ⟨_, rfl, _, rfl, by exact fun h => absurd h (by decide), hF⟩
theorem BR {r c cur : Int} {A : Option Addr} {n cp bp B0 : Nat} {cs : List Gs.Cell} {w : World} (af : Z.h w bp #[Z.i r, Z.i c, .slice A n cp, Z.i cur] 91) (ae : Own B0 w 37 5 (.slice A n cp) (rows Gs.cv cs)) (hW : Gs.Pw r c n cs cur) {x : Int} {ins : Bool} (hxb : 0 ≤ x ∧ x ≤ 255) :
    oX 37 #[Z.p bp, Z.u x, .bool ins] w fun e w' => ∃ v, e = .returned v ∧ ∃ (q : Int) (c1 : List Gs.Cell) (cur1 : Int), v = Z.i q ∧ Gs.Pw r c n c1 cur1 ∧ ((q = 0 ∧ Gs.kG cs cur = true ∧ Gs.Mk cs c1 cur) ∨ (q ≠ 0 ∧ c1 = cs ∧ cur1 = cur)) ∧ Z.h w' bp #[Z.i r, Z.i c, .slice A n cp, Z.i cur1] 91 ∧ Own B0 w' 37 5 (.slice A n cp) (rows Gs.cv c1) ∧ az (fun k => aC (.slice A n cp) k ∨ k = bp) w w' := by
 refine WP.calls ?_
 unfold WP
 obtain ⟨hn, hcw, hcu, hp, hN, hb⟩ := id hW; have hrc := hW.rc
 have hk0 := Gs.Kp.refl cs
 have hF : az (fun k => aC (.slice A n cp) k ∨ k = bp) w w := Fr.refl _ _ _
 refine aG (gz af ae hn) (fun w1 U1 => ?_)
 replace ae := ae.ai U1
 replace af := U1.ag af
 refine aJ (SG af ae hW hxb) (fun v2 w2 D2 => ?_)
 obtain ⟨e15, rfl, he15, U2⟩ := D2
 refine ay (kL _ _ _ _ _) (fun h3 => ?_) (fun h3 => ?_)
 refine aH ?_
 replace hF := (hF.go0 U1).go0 U2
 replace ae := ae.ai U2
 replace af := U2.ag af
 exact ⟨_, rfl, _, _, _, rfl, hW, .inr ⟨by assumption, rfl, rfl⟩, af, ae, hF⟩
 refine aB ?_
 have hop := he15 (Classical.not_not.1 (by assumption))
 replace ae := ae.ai U2
 replace af := U2.ag af
 refine aG (iI af ae hn (i := cur)) (fun w5 U5 => ?_)
 refine Z.n ((Gs.cv Gs.zc).toArray) (fun b6 w6 e6 nY _ U6 => ?_)
 replace af := U5.ag af
 have vG : bp ≠ b6 := by have := au af; omega
 replace ae := ae.ai U5
 have oV := ae.apart e6
 replace hF := ((hF.go0 U1).go0 U2).go0 U5
 have wY : w.heap.size ≤ b6 := by have := hF.size; omega
 refine Z.t 5 ((Gs.cv (Gs.bJ cs cur)).toArray) (by (simp [Value.cells, Value.oneCell', Gs.cv, Gs.fv, Gs.ie]; done)) nY (fun w7 nY _ U7 => ?_)
 refine bH (fun g w' => ∃ (c1 : List Gs.Cell), (Gs.Kp cs c1) ∧ (Gs.Pw r c n c1 cur) ∧ (Gs.kG cs cur = true) ∧ (Z.h w' bp #[Z.i r, Z.i c, .slice A n cp, Z.i cur] 91) ∧ (Own B0 w' 37 5 (.slice A n cp) (rows Gs.cv c1)) ∧ (Z.h w' b6 ((Gs.cv (Gs.bJ cs cur)).toArray) 37) ∧ (az (fun k => aC (.slice A n cp) k ∨ k = bp) w w')) (fun J1 hJ1 => ?_) (fun gJ1 jX hI => ?_)
 refine jZ (fun h8 => ?_) (fun h8 => ?_)
 replace ae := (ae.ai U6).aA U7 oV
 replace af := U7.ak (U6.ag af) vG
 refine aJ (Oh af ae hW) (fun v9 w9 D9 => ?_)
 obtain ⟨e24, c1, rfl, hW1, hk1, he24, N9, U9⟩ := D9
 have aK := ae
 replace af := U9.get af (fun h => Own.aP aK af (by decide) _ h rfl)
 replace ae := N9
 replace nY := U9.get nY (fun h => oV _ h rfl)
 replace hF := (hF.go0 U6).go1 U7 wY
 replace hF := hF.go U9 (fun i h hs => .inl hs)
 clear aK
 refine ay (kL _ _ _ _ _) (fun h10 => ?_) (fun h10 => ?_)
 refine aH ?_
 exact ⟨_, rfl, _, _, _, rfl, hW1, .inr ⟨by assumption, he24 (by assumption), rfl⟩, af, ae, hF⟩
 refine aB ?_
 refine hJ1 _ _ ?_
 exact ⟨_, (by exact hk1), (by exact hW1), hop, af, ae, nY, hF⟩
 refine hJ1 _ _ ?_
 replace ae := (ae.ai U6).aA U7 oV
 replace af := U7.ak (U6.ag af) vG
 replace hF := (hF.go0 U6).go1 U7 wY
 exact ⟨_, (by exact hk0), (by exact hW), hop, af, ae, nY, hF⟩
 replace ae := (ae.ai U6).aA U7 oV
 replace af := U7.ak (U6.ag af) vG
 replace hF := (hF.go0 U6).go1 U7 wY
 obtain ⟨c1, hk1, hW1, hop, af, ae, nY, hF⟩ := hI
 refine Z.f 3 ?_
 refine Z.l nY ?_
 refine Z.f 4 ?_
 refine Z.l nY ?_
 refine aj (bz (l := [(0, 1), (1, 1), (2, 1), (3, 1), (4, 1)]) (z := #[Z.u 0, .bool false, .bool false, Z.u 0, Z.u 0]) (cs := Gs.cv ⟨x, false, false, (Gs.bJ cs cur).l, (Gs.bJ cs cur).c⟩) (by kernel_rfl) (by rfl)) ?_
 have hw2 := hW1.set cur (x := ⟨x, false, false, (Gs.bJ cs cur).l, (Gs.bJ cs cur).c⟩) hxb
 have hw3 := hw2.mark cur
 have hmk := Gs.Mk.of (i := cur) (x := ⟨x, false, false, (Gs.bJ cs cur).l, (Gs.bJ cs cur).c⟩) (Gs.ahp hop) rfl hk1
 refine aJ (jG af ae hW1.1 (i := cur) (x := ⟨x, false, false, (Gs.bJ cs cur).l, (Gs.bJ cs cur).c⟩)) (fun v13 uM D13 => ?_)
 obtain ⟨rfl, N13, dI⟩ := D13
 have aK := ae
 replace af := dI.get af (fun h => Own.aP aK af (by decide) _ h rfl)
 replace ae := N13
 replace hF := hF.go dI (fun i h hs => .inl hs)
 clear aK
 refine aJ (yg af ae hw2.1 hN hb hw2.2.1 (i := cur)) (fun v14 sJ D14 => ?_)
 obtain ⟨rfl, N14, dw⟩ := D14
 have aK := ae
 replace af := dw.get af (fun h => Own.aP aK af (by decide) _ h rfl)
 replace ae := N14
 replace hF := hF.go dw (fun i h hs => .inl hs)
 clear aK
 refine aJ (YH af ae hw3) (fun v15 uN D15 => ?_)
 obtain ⟨cur2, rfl, hW2, N15, dH⟩ := D15
 replace ae := ae.aA dH (Own.aP ae (by assumption) (by decide))
 replace af := N15
 replace hF := hF.go dH (fun i _ h => .inr h)
 exact ⟨_, rfl, _, _, _, rfl, hW2, .inl ⟨rfl, hop, hmk⟩, af, ae, hF⟩
theorem L9 {r c cur : Int} {A : Option Addr} {n cp bp B0 : Nat} {cs : List Gs.Cell} {w : World} (af : Z.h w bp #[Z.i r, Z.i c, .slice A n cp, Z.i cur] 91) (ae : Own B0 w 37 5 (.slice A n cp) (rows Gs.cv cs)) (hW : Gs.Pw r c n cs cur)  :
    oX 91 #[Z.p bp] w fun e w' => ∃ v, e = .returned v ∧ ∃ (q : Int) (c1 : List Gs.Cell) (cur1 : Int), v = Z.i q ∧ Gs.Pw r c n c1 cur1 ∧ ((q = 0 ∧ Gs.kG cs cur = true ∧ Gs.Mk cs c1 cur) ∨ (q ≠ 0 ∧ c1 = cs ∧ cur1 = cur)) ∧ Z.h w' bp #[Z.i r, Z.i c, .slice A n cp, Z.i cur1] 91 ∧ Own B0 w' 37 5 (.slice A n cp) (rows Gs.cv c1) ∧ az (fun k => aC (.slice A n cp) k ∨ k = bp) w w' := by
 refine F91.calls ?_
 unfold F91
 obtain ⟨hn, hcw, hcu, hp, hN, hb⟩ := id hW; have hrc := hW.rc
 have hk0 := Gs.Kp.refl cs
 have hF : az (fun k => aC (.slice A n cp) k ∨ k = bp) w w := Fr.refl _ _ _
 refine aG (gz af ae hn) (fun w1 U1 => ?_)
 replace ae := ae.ai U1
 replace af := U1.ag af
 refine dS (nN af ae hn hN hb hcw (i := cur)) (fun w2 U2 h2 => ?_) (fun w2 U2 h2 => ?_)
 refine aj (lX) ?_
 refine aB ?_
 have hop : Gs.kG cs cur = true := by assumption
 replace ae := ae.ai U2
 replace af := U2.ag af
 refine aJ (Ii af ae hW hcu) (fun v3 w3 D3 => ?_)
 obtain ⟨l14, A14, c14, rfl, uI, gA14, hr14, hl14, ho14, U3⟩ := D3
 have QI : _ ∨ ∀ k, _ → ¬ aC _ k := gA14.imp_right fun h k hk hs => by have := h k hk; have := (Own.ge ae hs).2; omega
 have hlz := List.length_pos_iff.2 (ho14 hop)
 refine bH (fun g w' => ∃ (c1 : List Gs.Cell), (Gs.Kp cs c1) ∧ (Gs.Pw r c n c1 cur) ∧ (Z.h w' bp #[Z.i r, Z.i c, .slice A n cp, Z.i cur] 91) ∧ (Own B0 w' 37 5 (.slice A n cp) (rows Gs.cv c1)) ∧ (Rd w' A14 (vals .i64 l14)) ∧ (az (fun k => aC (.slice A n cp) k ∨ k = bp) w w')) (fun J1 hJ1 => ?_) (fun gJ1 jX hI => ?_)
 refine aj (gm (by kernel_rfl) _ _ _) ?_
 refine aj (vZ _ (by omega)) ?_
 refine dW (fun g w' => ∃ (k : Nat) (c1 : List Gs.Cell), (g 18 = Z.i (k : Int)) ∧ (k ≤ (l14.length - 1)) ∧ (Gs.Kp cs c1) ∧ (Gs.Pw r c n c1 cur) ∧ (Z.h w' bp #[Z.i r, Z.i c, .slice A n cp, Z.i cur] 91) ∧ (Own B0 w' 37 5 (.slice A n cp) (rows Gs.cv c1)) ∧ (Rd w' A14 (vals .i64 l14)) ∧ (az (fun k => aC (.slice A n cp) k ∨ k = bp) w w')) (fun g w' => (l14.length - 1) - (RowKit.intOf (g 18)).toNat) ?_ (fun g2 qj hI => ?_)
 replace hF := ((hF.go0 U1).go0 U2).go0 U3
 replace ae := ae.ai U3
 replace af := U3.ag af
 exact ⟨0, cs, (by rfl), Nat.zero_le _, hk0, hW, af, ae, uI, hF⟩
 replace hF := ((hF.go0 U1).go0 U2).go0 U3
 replace ae := ae.ai U3
 replace af := U3.ag af
 obtain ⟨k, c1, g18, hk, hk1, hW1, af, ae, uI, hF⟩ := hI
 rw [g18]
 refine ay (lss _ _ _ _) (fun h4 => ?_) (fun h4 => ?_)
 refine aH ?_
 refine dQ (S := no) (fun w5 U5 => ?_)
 replace uI := uI.ai U5
 refine nD (by kernel_rfl) (by kernel_rfl) (fun w' hw' => uI.ai hw') (Fr.refl _ _ _) (by rfl) (by omega) (by omega) (fun x6 hx6 => ?_)
 simp only [Int.toNat_natCast] at hx6
 refine bi (fun w' hw' => (dF _ (by omega))) ?_
 refine nD (by kernel_rfl) (by kernel_rfl) (fun w' hw' => uI.ai hw') (Fr.refl _ _ _) (by rfl) (by omega) (by omega) (fun x7 hx7 => ?_)
 replace ae := ae.ai U5
 replace af := U5.ag af
 refine fU (fun w' hw' => by have af := hw'.ag af; have ae := ae.ai hw'; exact iI af ae hW1.1 (i := x7)) ?_
 refine aF (fun w9 U9 => ?_)
 replace ae := ae.ai U9
 replace af := U9.ag af
 refine aJ (jG af ae hW1.1 (i := x6) (x := Gs.bJ c1 x7)) (fun v10 w10 D10 => ?_)
 obtain ⟨rfl, N10, aT⟩ := D10
 have aK := ae
 replace af := aT.get af (fun h => Own.aP aK af (by decide) _ h rfl)
 replace ae := N10
 replace uI := uI.ai U9
 replace uI := uI.eH aT QI
 replace hF := (hF.go0 U5).go0 U9
 replace hF := hF.go aT (fun i h hs => .inl hs)
 clear aK
 refine aF (fun oz bK => ?_)
 refine aj (dF _ (by omega)) ?_
 replace ae := ae.ai bK
 replace uI := uI.ai bK
 replace af := bK.ag af
 replace hF := hF.go0 bK
 exact ⟨⟨k + 1, _, (by rfl), by omega, (hk1.set (hr14.get hx6).2 (((hk1.2 _).1).trans (hr14.get hx7).2)), (hW1.set _ (Gs.qY hW1.2.1 _)), af, ae, uI, hF⟩, cnt_lt (by rfl) rfl (by omega)⟩
 refine aB ?_
 refine hJ1 _ _ ?_
 exact ⟨_, hk1, hW1, af, ae, uI, hF⟩
 replace hF := ((hF.go0 U1).go0 U2).go0 U3
 replace ae := ae.ai U3
 replace af := U3.ag af
 obtain ⟨c1, hk1, hW1, af, ae, uI, hF⟩ := hI
 refine aj (gm (by kernel_rfl) _ _ _) ?_
 refine aj (vZ _ (by omega)) ?_
 refine mJ (by kernel_rfl) (by kernel_rfl) uI (by rfl) (by omega) (by omega) (fun x12 Ob => ?_)
 refine aj (bz (l := [(0, 1), (1, 1), (2, 1), (3, 1), (4, 1)]) (z := #[Z.u 0, .bool false, .bool false, Z.u 0, Z.u 0]) (cs := (Gs.cv Gs.zc)) (by kernel_rfl) (by rfl)) ?_
 have hw2 := hW1.set x12 Gs.Am
 have hw3 := hw2.mark cur
 have hmk : Gs.Mk cs (Gs.pI (Gs.jo c1 x12 Gs.zc) cur) cur := ⟨_, hk1.set (hr14.get Ob).2 rfl, rfl⟩
 refine aJ (jG af ae hW1.1 (i := x12) (x := Gs.zc)) (fun v13 uM D13 => ?_)
 obtain ⟨rfl, N13, dI⟩ := D13
 have aK := ae
 replace af := dI.get af (fun h => Own.aP aK af (by decide) _ h rfl)
 replace ae := N13
 replace hF := hF.go dI (fun i h hs => .inl hs)
 clear aK
 refine aJ (yg af ae hw2.1 hN hb hw2.2.1 (i := cur)) (fun v14 sJ D14 => ?_)
 obtain ⟨rfl, N14, dw⟩ := D14
 have aK := ae
 replace af := dw.get af (fun h => Own.aP aK af (by decide) _ h rfl)
 replace ae := N14
 replace hF := hF.go dw (fun i h hs => .inl hs)
 clear aK
 exact ⟨_, rfl, _, _, _, rfl, hw3, .inl ⟨rfl, hop, hmk⟩, af, ae, hF⟩
 refine aj (mV) ?_
 refine aH ?_
 replace hF := (hF.go0 U1).go0 U2
 replace ae := ae.ai U2
 replace af := U2.ag af
 exact ⟨_, rfl, _, _, _, rfl, hW, .inr ⟨by decide, rfl, rfl⟩, af, ae, hF⟩
theorem JA {r c cur : Int} {A : Option Addr} {n cp bp B0 b1 b2 : Nat} {f : Gs.pX} {y : Value} {J : Nat → World → Prop} {X : World → Prop} {w : World} (hcap : ∀ k w', J k w' → Z.h w' b1 #[Z.p bp] 33 ∧ Z.h w' b2 ((Gs.fv f).toArray) 173 ∧ Z.h w' bp #[Z.i r, Z.i c, .slice A n cp, Z.i cur] 91 ∧ ∃ cs : List Gs.Cell, n = cs.length ∧ Own B0 w' 37 5 (.slice A n cp) (rows Gs.cv cs)) (hst : ∀ k w' w'', J k w' → az no w' w'' → J k w'') (hsx : ∀ w' w'', X w' → az no w' w'' → X w'') (hN : Gs.aU r c = n) (hb : n ≤ 4096) (hy : ∀ k w' x, (Gs.dZ n f)[k]? = some x → J k w' → EK Tryz.prog y #[Z.i x] w' (J (k + 1)) X) (h0 : J 0 w) :
    oX 161 #[y, Z.p b2, Z.p b1] w fun e w' => (∃ v, e = .returned v) ∧ (J (Gs.dZ n f).length w' ∨ X w') := by
 refine Oi.calls ?_
 unfold Oi
 obtain ⟨ah, ax, af, cs, hn, ae⟩ := hcap _ _ h0
 refine dQ (S := no) (fun w1 U1 => ?_)
 replace h0 := hst _ _ _ h0 U1
 refine Z.g 0 ?_
 replace ax := U1.ag ax
 refine Z.m ax ?_
 refine jR (fun w' hw' => (lss _ _ _ _)) (fun h2 => ?_) (fun h2 => ?_)
 refine jr (jr (jr (jr (jr (jS ?_)))))
 refine aF (fun w3 U3 => ?_)
 replace h0 := hst _ _ _ h0 U3
 refine aH ?_
 exact ⟨⟨_, rfl⟩, .inl (by rw [Gs.xK (by omega)]; exact h0)⟩
 refine bF ?_
 refine Z.g 0 ?_
 refine bF ?_
 refine Z.m ax ?_
 refine bF ?_
 replace ah := U1.ag ah
 refine Z.m ah ?_
 refine bF ?_
 replace ae := ae.ai U1
 replace af := U1.ag af
 refine fU (fun w' hw' => by have af := hw'.ag af; have ae := ae.ai hw'; exact eY af ae hn) ?_
 refine bF ?_
 refine jR (fun w' hw' => (geq _ _ _ _)) (fun h6 => ?_) (fun h6 => ?_)
 refine fP ?_
 refine aF (fun w7 U7 => ?_)
 replace h0 := hst _ _ _ h0 U7
 refine aH ?_
 exact ⟨⟨_, rfl⟩, .inl (by rw [Gs.xK (by omega)]; exact h0)⟩
 refine fP ?_
 refine aF (fun w9 U9 => ?_)
 replace h0 := hst _ _ _ h0 U9
 refine aB ?_
 refine dQ (S := no) (fun w10 aT => ?_)
 replace h0 := hst _ _ _ h0 aT
 refine Z.g 1 ?_
 replace ax := aT.ag (U9.ag ax)
 refine Z.m ax ?_
 refine bi (fun w' hw' => (ajt _ _ _ _ _)) ?_
 replace ah := aT.ag (U9.ag ah)
 refine Z.m ah ?_
 replace ae := (ae.ai U9).ai aT
 replace af := aT.ag (U9.ag af)
 refine fU (fun w' hw' => by have af := hw'.ag af; have ae := ae.ai hw'; exact eY af ae hn) ?_
 refine bi (fun w' hw' => (aju _ _ _ _ _)) ?_
 refine aF (fun w12 cZ => ?_)
 replace h0 := hst _ _ _ h0 cZ
 refine dW (fun g w' => ∃ k : Nat, k ≤ (Gs.dZ n f).length ∧ g 21 = Z.i (k : Int) ∧ J k w') (fun g w' => (Gs.dZ n f).length - (RowKit.intOf (g 21)).toNat) ?_ (fun g1 wl1 hI => ?_)
 have hpl := Gs.qZ (N := n) (f := f) (by omega)
 exact ⟨0, Nat.zero_le _, rfl, h0⟩
 have hpl := Gs.qZ (N := n) (f := f) (by omega)
 obtain ⟨k, hk, g21, hJ⟩ := hI
 rw [g21]
 replace ae := ae.ai cZ
 replace ah := cZ.ag ah
 replace ax := cZ.ag ax
 replace af := cZ.ag af
 obtain ⟨ah, ax, af, cs, hn, ae⟩ := hcap _ _ hJ
 refine ay (lss _ _ _ _) (fun h13 => ?_) (fun h13 => ?_)
 refine aH ?_
 refine dQ (S := no) (fun sJ dw => ?_)
 replace hJ := hst _ _ _ hJ dw
 replace ah := dw.ag ah
 refine Z.m ah ?_
 replace ae := ae.ai dw
 replace af := dw.ag af
 refine fU (fun w' hw' => by have af := hw'.ag af; have ae := ae.ai hw'; exact ku af ae hn) ?_
 refine Z.g 0 ?_
 replace ax := dw.ag ax
 refine Z.m ax ?_
 refine bi (fun w' hw' => (dF _ (by omega))) ?_
 refine fU (fun w' hw' => mO (i := f.s) (j := (k : Int) + 1)) ?_
 rw [hN, Gs.rQ (by omega), show ((k : Int) + 1) = ((k + 1 : Nat) : Int) by omega]
 refine aF (fun uo bY => ?_)
 replace hJ := hst _ _ _ hJ bY
 refine FP (hy k _ _ (Gs.vH (by omega)) hJ) (fun wy18 hJ2 => ?_) (fun wy18 hX => ?_)
 replace ae := ae.ai bY
 replace ah := bY.ag ah
 replace ax := bY.ag ax
 replace af := bY.ag af
 obtain ⟨ah, ax, af, cs, hn, ae⟩ := hcap _ _ hJ2
 refine bi (fun w' hw' => (lX)) ?_
 refine aF (fun yK eu => ?_)
 replace hJ2 := hst _ _ _ hJ2 eu
 refine aB ?_
 refine aj (dF _ (by omega)) ?_
 exact ⟨⟨k + 1, by omega, rfl, hJ2⟩, cnt_lt (by rfl) rfl (by omega)⟩
 refine bi (fun w' hw' => (mV)) ?_
 refine aF (fun wE dJ => ?_)
 replace hX := hsx _ _ hX dJ
 refine aH ?_
 exact ⟨⟨_, rfl⟩, .inr hX⟩
 refine aB ?_
 exact ⟨⟨_, rfl⟩, .inl (by rw [show (Gs.dZ n f).length = k by omega]; exact hJ)⟩
theorem VJ {r c cur : Int} {A : Option Addr} {n cp bp B0 : Nat} {cs : List Gs.Cell} {w : World} (af : Z.h w bp #[Z.i r, Z.i c, .slice A n cp, Z.i cur] 91) (ae : Own B0 w 37 5 (.slice A n cp) (rows Gs.cv cs)) (hW : Gs.Pw r c n cs cur) {i : Int} :
    oX 134 #[Z.p bp, Z.i i] w fun e w' => ∃ v, e = .returned v ∧ ∃ (k : Int) (q : Bool) (c1 : List Gs.Cell), v = .tuple #[Z.i k, .bool q] ∧ Gs.Pw r c n c1 cur ∧ ((q = true ∧ Gs.kG cs i = true ∧ Gs.Mk cs c1 i) ∨ (q = false ∧ c1 = cs)) ∧ Own B0 w' 37 5 (.slice A n cp) (rows Gs.cv c1) ∧ az (aC (.slice A n cp)) w w' := by
 refine YP.calls ?_
 unfold YP
 obtain ⟨hn, hcw, hcu, hp, hN, hb⟩ := id hW; have hrc := hW.rc
 have hk0 := Gs.Kp.refl cs
 have uA := au af
 have jP := Own.lt ae
 have hF : az (aC (.slice A n cp)) w w := Fr.refl _ _ _
 refine Z.x _ (fun b1 w1 e1 ah _ U1 => ?_)
 have jW : bp ≠ b1 := by have := au af; omega
 have gV := ae.apart e1
 have bU : w.heap.size ≤ b1 := by have := hF.size; omega
 refine Z.x _ (fun b2 w2 e2 ax _ U2 => ?_)
 replace af := U1.ag af
 have fH : bp ≠ b2 := by have := au af; omega
 replace ae := ae.ai U1
 have dN := ae.apart e2
 have lJ : b1 ≠ b2 := by have := au ah; omega
 replace hF := hF.go0 U1
 have fF : w.heap.size ≤ b2 := by have := hF.size; omega
 replace ah := U2.ag ah
 refine Z.l ah ?_
 refine Z.l ax ?_
 replace ae := ae.ai U2
 replace af := U2.ag af
 refine dS (nN af ae hn hN hb hcw (i := i)) (fun w3 U3 h3 => ?_) (fun w3 U3 h3 => ?_)
 refine aj (lX) ?_
 refine aB ?_
 replace ah := U3.ag ah
 refine Z.l ah ?_
 replace ax := U3.ag ax
 refine Z.l ax ?_
 replace hF := (hF.go0 U2).go0 U3
 replace ae := ae.ai U3
 replace af := U3.ag af
 have hop : Gs.kG cs i = true := by assumption
 have hiC := Gs.Mc hop
 refine aG (tX af ae hn hN hb hcw (i := i)) (fun w4 U4 => ?_)
 refine Z.e ?_
 refine Z.e ?_
 refine Z.n ((Gs.fv Gs.zf).toArray) (fun b5 w5 e5 bV _ U5 => ?_)
 replace af := U4.ag af
 have lq : bp ≠ b5 := by have := au af; omega
 replace ae := ae.ai U4
 have kD := ae.apart e5
 replace ah := U4.ag ah
 have ik : b1 ≠ b5 := by have := au ah; omega
 replace ax := U4.ag ax
 have mY : b2 ≠ b5 := by have := au ax; omega
 replace hF := hF.go0 U4
 have iF : w.heap.size ≤ b5 := by have := hF.size; omega
 refine Z.t 3 ((Gs.fv (Gs.mg cs i)).toArray) (by (simp [Value.cells, Value.oneCell', Gs.cv, Gs.fv, Gs.ie]; done)) bV (fun w6 bV _ U6 => ?_)
 refine aj (Ak _) ?_
 refine jZ (fun h7 => ?_) (fun h7 => ?_)
 refine dQ (S := no) (fun w8 U8 => ?_)
 replace ah := U8.ag (U6.ak (U5.ag ah) ik)
 refine Z.m ah ?_
 replace ae := ((ae.ai U5).aA U6 kD).ai U8
 replace af := U8.ag (U6.ak (U5.ag af) lq)
 replace ax := U8.ag (U6.ak (U5.ag ax) mY)
 replace hF := ((hF.go0 U5).go1 U6 iF).go0 U8
 have hob : Gs.mf cs i = false := by cases hq : Gs.mf cs i <;> simp_all
 refine fU (fun w' hw' => by have af := hw'.ag af; have ae := ae.ai hw'; exact eY af ae hn) ?_
 refine Z.m ax ?_
 refine bi (fun w' hw' => (vZ _ (by omega))) ?_
 refine aF (fun w10 aT => ?_)
 replace ah := aT.ag ah
 refine Z.l ah ?_
 replace ax := aT.ag ax
 refine Z.l ax ?_
 refine aj (bz (l := [(0, 1), (1, 1), (2, 1), (3, 1), (4, 1)]) (z := #[Z.u 0, .bool false, .bool false, Z.u 0, Z.u 0]) (cs := (Gs.cv Gs.zc)) (by kernel_rfl) (by rfl)) ?_
 replace ae := ae.ai aT
 replace af := aT.ag af
 refine aJ (Ij af ae hn (i := i) (j := 0) (x := Gs.zc) hN) (fun v11 oz D11 => ?_)
 obtain ⟨rfl, N11, bK⟩ := D11
 have aK := ae
 replace ae := N11
 replace hF := hF.go0 aT
 replace hF := hF.go bK (fun i h hs => by exact hs)
 clear aK
 have hk1 : Gs.Kp cs (Gs.sF cs (Gs.qH (Gs.aU r c) i 0) Gs.zc) := Gs.Kp.fill rfl hk0 (fun y hy => Gs.Su hiC hob (by have := Gs.adS hy; omega))
 show lS [] _ _
 exact ⟨_, rfl, _, _, _, rfl, hW.fill _ Gs.Am, .inl ⟨rfl, hop, Gs.Mk.free hk1 hob⟩, ae, hF⟩
 refine Z.n (#[Z.i 0]) (fun b14 sJ e14 dR _ dw => ?_)
 replace af := U6.ak (U5.ag af) lq
 have qm : bp ≠ b14 := by have := au af; omega
 replace ae := (ae.ai U5).aA U6 kD
 have nO := ae.apart e14
 replace ah := U6.ak (U5.ag ah) ik
 have qo : b1 ≠ b14 := by have := au ah; omega
 replace ax := U6.ak (U5.ag ax) mY
 have vI : b2 ≠ b14 := by have := au ax; omega
 have PG : b5 ≠ b14 := by have := au bV; omega
 replace hF := (hF.go0 U5).go1 U6 iF
 have pg : w.heap.size ≤ b14 := by have := hF.size; omega
 refine Z.s dR (fun uN dR _ dH => ?_)
 refine bH (fun g w' => ∃ (D2 : Nat) (c1 : List Gs.Cell) (m : Int), (g 1000000 = mkV D2 undef) ∧ (w.heap.size ≤ D2) ∧ (w'.heap[D2]? = some (.deferred (some []))) ∧ (Gs.mf cs i = true) ∧ (Z.h w' b14 #[Z.i m] 3) ∧ (Z.h w' bp #[Z.i r, Z.i c, .slice A n cp, Z.i cur] 91) ∧ (Own B0 w' 37 5 (.slice A n cp) (rows Gs.cv c1)) ∧ (Gs.Kp cs c1) ∧ (Gs.Pw r c n c1 cur) ∧ (Z.h w' b1 #[Z.p bp] 33) ∧ (Z.h w' b2 #[Z.i i] 3) ∧ (az (aC (.slice A n cp)) w w')) (fun J1 hJ1 => ?_) (fun gJ1 jX hI => ?_)
 replace ah := dH.ak (dw.ag ah) qo
 refine Z.l ah ?_
 replace bV := dH.ak (dw.ag bV) PG
 refine Z.b 3 ((Gs.fv (Gs.mg cs i)).toArray) bV ?_
 replace ae := (ae.ai dw).aA dH nO
 replace af := dH.ak (dw.ag af) qm
 replace ax := dH.ak (dw.ag ax) vI
 replace hF := (hF.go0 dw).go1 dH pg
 have hob : Gs.mf cs i = true := by cases hq : Gs.mf cs i <;> simp_all
 refine aJ (yV af ae hn (f := Gs.mg cs i)) (fun v16 w16 D16 => ?_)
 obtain ⟨b1_34, b2_34, rfl, g1_34, g2_34, iy, iC, bZ⟩ := D16
 have alo : bp ≠ b1_34 := by have := au af; omega
 have ahq : ∀ k, aC _ k → k ≠ b1_34 := fun k hk => by have := (Own.ge ae hk).2; omega
 have alp : b1 ≠ b1_34 := by have := au ah; omega
 have alq : b2 ≠ b1_34 := by have := au ax; omega
 have alr : b5 ≠ b1_34 := by have := au bV; omega
 have Ik : b14 ≠ b1_34 := by have := au dR; omega
 have aoy : w.heap.size ≤ b1_34 := by have := hF.size; omega
 have als : bp ≠ b2_34 := by have := au af; omega
 have ahr : ∀ k, aC _ k → k ≠ b2_34 := fun k hk => by have := (Own.ge ae hk).2; omega
 have alu : b1 ≠ b2_34 := by have := au ah; omega
 have alv : b2 ≠ b2_34 := by have := au ax; omega
 have alx : b5 ≠ b2_34 := by have := au bV; omega
 have Il : b14 ≠ b2_34 := by have := au dR; omega
 have aoz : w.heap.size ≤ b2_34 := by have := hF.size; omega
 refine tZ (by kernel_rfl) (fun uo l2 D2 Rdy2 Bsy2 Dn2 y2 eD el aZ bg lp1 lp2 lp3 sz17 bY hY => ?_)
 have lp2_2 := lp2
 replace af := bZ.ag af
 have SH : bp ≠ D2 := by have := au af; omega
 have iE : bp ≠ l2 := by have := au af; omega
 replace ae := ae.ai bZ
 have rU : ∀ k, aC _ k → k ≠ D2 := fun k hk => by have := (Own.ge ae hk).2; omega
 have fD : ∀ k, aC _ k → k ≠ l2 := fun k hk => by have := (Own.ge ae hk).2; omega
 replace ah := bZ.ag ah
 have SI : b1 ≠ D2 := by have := au ah; omega
 have iJ : b1 ≠ l2 := by have := au ah; omega
 replace ax := bZ.ag ax
 have uf : b2 ≠ D2 := by have := au ax; omega
 have gW : b2 ≠ l2 := by have := au ax; omega
 replace bV := bZ.ag bV
 have aoA : b5 ≠ D2 := by have := au bV; omega
 have aoB : b5 ≠ l2 := by have := au bV; omega
 replace dR := bZ.ag dR
 have PH : b14 ≠ D2 := by have := au dR; omega
 have tJ : b14 ≠ l2 := by have := au dR; omega
 have aly : b1_34 ≠ D2 := by have := au iy; omega
 have uD : b1_34 ≠ l2 := by have := au iy; omega
 have alz : b2_34 ≠ D2 := by have := au iC; omega
 have uF : b2_34 ≠ l2 := by have := au iC; omega
 replace hF := hF.go0 bZ
 have nG : w.heap.size ≤ D2 := by have := hF.size; omega
 have jK : w.heap.size ≤ l2 := by have := hF.size; omega
 have fQ : D2 ≠ l2 := by omega
 replace ae := ae.ai bY
 replace af := bY.ag af
 replace ah := bY.ag ah
 replace ax := bY.ag ax
 replace dR := bY.ag dR
 replace iy := bY.ag iy
 replace iC := bY.ag iC
 replace hF := hF.go0 bY
 refine Calls.mono (JA (b1 := b1_34) (b2 := b2_34) (J := (fun (k : Nat) (w' : World) => ∃ (c1 : List Gs.Cell) (m : Int), (Z.h w' b14 #[Z.i m] 3) ∧ (Z.h w' bp #[Z.i r, Z.i c, .slice A n cp, Z.i cur] 91) ∧ (Own B0 w' 37 5 (.slice A n cp) (rows Gs.cv c1)) ∧ (Gs.Kp cs c1) ∧ (Gs.Pw r c n c1 cur) ∧ (Z.h w' b1 #[Z.p bp] 33) ∧ (Z.h w' b2 #[Z.i i] 3) ∧ (Z.h w' b1_34 #[Z.p bp] 33) ∧ (Z.h w' b2_34 ((Gs.fv (Gs.mg cs i)).toArray) 173) ∧ (w'.heap[D2]? = some (.deferred (some []))) ∧ (w'.heap[l2]? = some Rdy2) ∧ (az (aC (.slice A n cp)) w w'))) (X := (fun _ => False)) (fun _ w' hJ => by obtain ⟨c1, m, dR, af, ae, hk1, hW1, ah, ax, iy, iC, aZ, bg, hF⟩ := hJ; exact ⟨iy, iC, af, _, hW1.1, ae⟩) (fun _ w' w'' hJ U' => by obtain ⟨c1, m, dR, af, ae, hk1, hW1, ah, ax, iy, iC, aZ, bg, hF⟩ := hJ; exact ⟨c1, m, U'.ag dR, U'.ag af, ae.ai U', hk1, hW1, U'.ag ah, U'.ag ax, U'.ag iy, U'.ag iC, U'.ag aZ, U'.ag bg, hF.go0 U'⟩) (fun _ _ h _ => h.elim) hN hb ?_ ?_) ?_
 intro k qj xk hx hI
 obtain ⟨c1, m, dR, af, ae, hk1, hW1, ah, ax, iy, iC, aZ, bg, hF⟩ := hI
 have hk := (List.getElem?_eq_some_iff.1 hx).1
 refine hY [Z.i xk] _ _ rfl bg ?_
 simp only [List.getD_cons_zero, List.getD_cons_succ]
 refine wM bg (fun uY bg _ dE => ?_)
 replace ae := ae.aA dE (by assumption)
 replace ax := dE.ak ax gW
 refine Z.l ax ?_
 refine ay (dC _ _ _ _ _) (fun h19 => ?_) (fun h19 => ?_)
 refine bI (bI (bu (aH ?_)))
 replace ah := dE.ak ah iJ
 refine Z.l ah ?_
 refine aj (bz (l := [(0, 1), (1, 1), (2, 1), (3, 1), (4, 1)]) (z := #[Z.u 0, .bool false, .bool false, Z.u 0, Z.u 0]) (cs := (Gs.cv Gs.zc)) (by kernel_rfl) (by rfl)) ?_
 replace af := dE.ak af iE
 refine aJ (jG af ae hW1.1 (i := xk) (x := Gs.zc)) (fun v20 wE D20 => ?_)
 obtain ⟨rfl, N20, dJ⟩ := D20
 have aK := ae
 replace dR := dE.ak dR tJ
 replace dR := dJ.get dR (fun h => Own.aP aK dR (by decide) _ h rfl)
 replace af := dJ.get af (fun h => Own.aP aK af (by decide) _ h rfl)
 replace ae := N20
 replace ah := dJ.get ah (fun h => Own.aP aK ah (by decide) _ h rfl)
 replace ax := dJ.get ax (fun h => Own.aP aK ax (by decide) _ h rfl)
 replace iy := dE.ak iy uD
 replace iy := dJ.get iy (fun h => Own.aP aK iy (by decide) _ h rfl)
 replace iC := dE.ak iC uF
 replace iC := dJ.get iC (fun h => Own.aP aK iC (by decide) _ h rfl)
 replace aZ := dE.ak aZ fQ
 replace aZ := dJ.get aZ (fun h => Own.lh aK aZ _ h rfl)
 replace hF := hF.go1 dE jK
 replace bg := dJ.get bg (fun h => Own.iY aK bg (by assumption) _ h rfl)
 replace hF := hF.go dJ (fun i h hs => by exact hs)
 clear aK
 refine Z.l dR ?_
 refine aj (FQ _ _ _ _) ?_
 refine Z.s dR (fun BD dR _ dL => ?_)
 replace ae := ae.aA dL (by assumption)
 replace bg := dL.ak bg (Ne.symm tJ)
 refine rP bg (fun ED bg _ fB => ?_)
 replace af := dL.ak af qm
 replace ah := dL.ak ah qo
 replace ax := dL.ak ax vI
 replace iy := dL.ak iy (Ne.symm Ik)
 replace iC := dL.ak iC (Ne.symm Il)
 replace aZ := dL.ak aZ (Ne.symm PH)
 replace hF := hF.go1 dL pg
 replace ae := ae.aA fB (by assumption)
 replace dR := fB.ak dR tJ
 replace af := fB.ak af iE
 replace ah := fB.ak ah iJ
 replace ax := fB.ak ax gW
 replace iy := fB.ak iy uD
 replace iC := fB.ak iC uF
 replace aZ := fB.ak aZ fQ
 replace hF := hF.go1 fB jK
 exact ⟨_, _, dR, af, ae, (by exact hk1.set (Gs.row_in hiC hob (by rw [← hn]; exact hx)).2 rfl), (by exact hW1.set _ Gs.Am), ah, ax, iy, iC, aZ, bg, hF⟩
 refine bP ?_
 replace dR := dE.ak dR tJ
 refine Z.l dR ?_
 refine bP ?_
 refine ay (gtr _ _ _ _) (fun h23 => ?_) (fun h23 => ?_)
 refine bG (aH ?_)
 replace ah := dE.ak ah iJ
 refine Z.l ah ?_
 refine aj (bz (l := [(0, 1), (1, 1), (2, 1), (3, 1), (4, 1)]) (z := #[Z.u 0, .bool false, .bool false, Z.u 0, Z.u 0]) (cs := (Gs.cv Gs.zc)) (by kernel_rfl) (by rfl)) ?_
 replace af := dE.ak af iE
 refine aJ (jG af ae hW1.1 (i := xk) (x := Gs.zc)) (fun v24 Po D24 => ?_)
 obtain ⟨rfl, N24, jm⟩ := D24
 have aK := ae
 replace dR := jm.get dR (fun h => Own.aP aK dR (by decide) _ h rfl)
 replace af := jm.get af (fun h => Own.aP aK af (by decide) _ h rfl)
 replace ae := N24
 replace ah := jm.get ah (fun h => Own.aP aK ah (by decide) _ h rfl)
 replace ax := jm.get ax (fun h => Own.aP aK ax (by decide) _ h rfl)
 replace iy := dE.ak iy uD
 replace iy := jm.get iy (fun h => Own.aP aK iy (by decide) _ h rfl)
 replace iC := dE.ak iC uF
 replace iC := jm.get iC (fun h => Own.aP aK iC (by decide) _ h rfl)
 replace aZ := dE.ak aZ fQ
 replace aZ := jm.get aZ (fun h => Own.lh aK aZ _ h rfl)
 replace hF := hF.go1 dE jK
 replace bg := jm.get bg (fun h => Own.iY aK bg (by assumption) _ h rfl)
 replace hF := hF.go jm (fun i h hs => by exact hs)
 clear aK
 refine Z.l dR ?_
 refine aj (FQ _ _ _ _) ?_
 refine Z.s dR (fun Hy dR _ iD => ?_)
 replace ae := ae.aA iD (by assumption)
 replace bg := iD.ak bg (Ne.symm tJ)
 refine rP bg (fun Pq bg _ jM => ?_)
 replace af := iD.ak af qm
 replace ah := iD.ak ah qo
 replace ax := iD.ak ax vI
 replace iy := iD.ak iy (Ne.symm Ik)
 replace iC := iD.ak iC (Ne.symm Il)
 replace aZ := iD.ak aZ (Ne.symm PH)
 replace hF := hF.go1 iD pg
 replace ae := ae.aA jM (by assumption)
 replace dR := jM.ak dR tJ
 replace af := jM.ak af iE
 replace ah := jM.ak ah iJ
 replace ax := jM.ak ax gW
 replace iy := jM.ak iy uD
 replace iC := jM.ak iC uF
 replace aZ := jM.ak aZ fQ
 replace hF := hF.go1 jM jK
 exact ⟨_, _, dR, af, ae, (by exact hk1.set (Gs.row_in hiC hob (by rw [← hn]; exact hx)).2 rfl), (by exact hW1.set _ Gs.Am), ah, ax, iy, iC, aZ, bg, hF⟩
 refine bG (aB ?_)
 refine rP bg (fun Ic bg _ ig => ?_)
 replace af := dE.ak af iE
 replace ah := dE.ak ah iJ
 replace iy := dE.ak iy uD
 replace iC := dE.ak iC uF
 replace aZ := dE.ak aZ fQ
 replace hF := hF.go1 dE jK
 replace ae := ae.aA ig (by assumption)
 replace dR := ig.ak dR tJ
 replace af := ig.ak af iE
 replace ah := ig.ak ah iJ
 replace ax := ig.ak ax gW
 replace iy := ig.ak iy uD
 replace iC := ig.ak iC uF
 replace aZ := ig.ak aZ fQ
 replace hF := hF.go1 ig jK
 exact ⟨_, _, dR, af, ae, (by exact hk1), (by exact hW1), ah, ax, iy, iC, aZ, bg, hF⟩
 exact ⟨cs, 0, dR, af, ae, hk0, hW, ah, ax, iy, iC, aZ, bg, hF⟩
 rintro e wE2 ⟨hv, hI | hI⟩
 obtain ⟨c1, m, dR, af, ae, hk1, hW1, ah, ax, iy, iC, aZ, bg, hF⟩ := hI
 refine ⟨hv, .inl ⟨bg, fun PD _ jJ => ?_⟩⟩
 replace ae := ae.aA jJ (by assumption)
 refine hJ1 _ _ ?_
 replace dR := jJ.ak dR tJ
 replace af := jJ.ak af iE
 replace ah := jJ.ak ah iJ
 replace ax := jJ.ak ax gW
 replace aZ := jJ.ak aZ fQ
 replace hF := hF.go1 jJ jK
 exact ⟨_, _, _, (by rfl), nG, aZ, hob, dR, af, ae, hk1, hW1, ah, ax, hF⟩
 exact hI.elim
 replace ae := (ae.ai dw).aA dH nO
 replace af := dH.ak (dw.ag af) qm
 replace ah := dH.ak (dw.ag ah) qo
 replace ax := dH.ak (dw.ag ax) vI
 replace hF := (hF.go0 dw).go1 dH pg
 obtain ⟨D2, c1, m, g1000000, nG, aZ, hob, dR, af, ae, hk1, hW1, ah, ax, hF⟩ := hI
 rw [g1000000]
 refine dQ (S := aC ((.slice A n cp))) (fun Px jc => ?_)
 replace dR := jc.ag dR
 refine bi (fun w' hw' => by have dR := hw'.get dR (fun h => nO _ h rfl); exact (kK (by kernel_rfl) dR (by rfl))) ?_
 replace ah := jc.ag ah
 refine bi (fun w' hw' => by have ah := (Fr.jA hw').ag ah; exact (kK (by kernel_rfl) ah (by rfl))) ?_
 replace ax := jc.ag ax
 refine bi (fun w' hw' => by have ax := (Fr.jA hw').ag ax; exact (kK (by kernel_rfl) ax (by rfl))) ?_
 refine aF (fun w30 rX => ?_)
 refine jC ?_
 replace ae := (ae.ai jc).ai rX
 replace af := rX.ag (jc.ag af)
 refine aJ (yg af ae hW1.1 hN hb hW1.2.1 (i := i)) (fun v31 w31 D31 => ?_)
 obtain ⟨rfl, N31, o6⟩ := D31
 have aK := ae
 replace aZ := rX.ag (jc.ag aZ)
 replace aZ := o6.get aZ (fun h => Own.lh aK aZ _ h rfl)
 replace ae := N31
 replace hF := (hF.go0 jc).go0 rX
 replace hF := hF.go o6 (fun i h hs => by exact hs)
 clear aK
 refine ⟨o6, ?_⟩
 refine aF (fun w32 kw => ?_)
 replace aZ := kw.ag aZ
 refine leave1 aZ (fun Rl _ lN => ?_)
 replace bV := dH.ak (dw.ag bV) PG
 replace ae := ae.ai kw
 replace hF := hF.go0 kw
 replace ae := ae.aA lN (Own.lh ae (by assumption))
 replace hF := hF.go1 lN nG
 exact ⟨_, rfl, _, _, _, rfl, hW1.mark i, .inl ⟨decide_eq_true (by rw [hk1.bef]; exact (Gs.YQ hob).1), hop, _, hk1, rfl⟩, ae, hF⟩
 refine aj (mV) ?_
 refine aH ?_
 show lS [] _ _
 replace hF := (hF.go0 U2).go0 U3
 replace ae := ae.ai U3
 exact ⟨_, rfl, _, _, _, rfl, hW, .inr ⟨rfl, rfl⟩, ae, hF⟩
theorem SK {r c cur : Int} {A : Option Addr} {n cp bp B0 : Nat} {cs : List Gs.Cell} {w : World} (af : Z.h w bp #[Z.i r, Z.i c, .slice A n cp, Z.i cur] 91) (ae : Own B0 w 37 5 (.slice A n cp) (rows Gs.cv cs)) (hW : Gs.Pw r c n cs cur)  :
    oX 89 #[Z.p bp] w fun e w' => ∃ v, e = .returned v ∧ ∃ (q : Int) (c1 : List Gs.Cell) (cur1 : Int), v = Z.i q ∧ Gs.Pw r c n c1 cur1 ∧ ((q = 0 ∧ Gs.kG cs cur = true ∧ Gs.Mk cs c1 cur) ∨ (q ≠ 0 ∧ c1 = cs ∧ cur1 = cur)) ∧ Z.h w' bp #[Z.i r, Z.i c, .slice A n cp, Z.i cur1] 91 ∧ Own B0 w' 37 5 (.slice A n cp) (rows Gs.cv c1) ∧ az (fun k => aC (.slice A n cp) k ∨ k = bp) w w' := by
 refine F89.calls ?_
 unfold F89
 obtain ⟨hn, hcw, hcu, hp, hN, hb⟩ := id hW; have hrc := hW.rc
 have hF : az (fun k => aC (.slice A n cp) k ∨ k = bp) w w := Fr.refl _ _ _
 refine aG (gz af ae hn) (fun w1 U1 => ?_)
 replace ae := ae.ai U1
 replace af := U1.ag af
 refine aJ (VJ af ae hW (i := cur)) (fun v2 w2 D2 => ?_)
 obtain ⟨k9, q9, c1, rfl, hW1, hm9, N2, U2⟩ := D2
 have aK := ae
 replace af := U2.get af (fun h => Own.aP aK af (by decide) _ h rfl)
 replace ae := N2
 replace hF := hF.go0 U1
 replace hF := hF.go U2 (fun i h hs => .inl hs)
 clear aK
 refine Z.e ?_
 refine Z.e ?_
 refine aj (Ak _) ?_
 refine jZ (fun h3 => ?_) (fun h3 => ?_)
 rcases hm9 with ⟨hq, ho, hm⟩ | ⟨hq, hc⟩ <;> subst hq <;> first | exact ⟨_, rfl, _, _, _, rfl, hW1, .inr ⟨by decide, hc, rfl⟩, af, ae, hF⟩ | (exfalso; simp_all; done)
 rcases hm9 with ⟨hq, ho, hm⟩ | ⟨hq, hc⟩ <;> subst hq <;> first | exact ⟨_, rfl, _, _, _, rfl, hW1, .inl ⟨rfl, ho, hm⟩, af, ae, hF⟩ | (exfalso; simp_all; done)
theorem SL {r c cur : Int} {A : Option Addr} {n cp bp B0 : Nat} {cs : List Gs.Cell} {w : World} (af : Z.h w bp #[Z.i r, Z.i c, .slice A n cp, Z.i cur] 91) (ae : Own B0 w 37 5 (.slice A n cp) (rows Gs.cv cs)) (hW : Gs.Pw r c n cs cur) {ins : Bool} :
    oX 92 #[Z.p bp, .bool ins] w fun e w' => ∃ v, e = .returned v ∧ ∃ (q : Int) (c1 : List Gs.Cell) (cur1 : Int), v = Z.i q ∧ Gs.Pw r c n c1 cur1 ∧ ((q = 0 ∧ Gs.kG cs cur = true ∧ Gs.Mk cs c1 cur) ∨ (q ≠ 0 ∧ c1 = cs ∧ cur1 = cur)) ∧ Z.h w' bp #[Z.i r, Z.i c, .slice A n cp, Z.i cur1] 91 ∧ Own B0 w' 37 5 (.slice A n cp) (rows Gs.cv c1) ∧ az (fun k => aC (.slice A n cp) k ∨ k = bp) w w' := by
 refine F92.calls ?_
 unfold F92
 obtain ⟨hn, hcw, hcu, hp, hN, hb⟩ := id hW; have hrc := hW.rc
 have hF : az (fun k => aC (.slice A n cp) k ∨ k = bp) w w := Fr.refl _ _ _
 refine aG (gz af ae hn) (fun w1 U1 => ?_)
 replace ae := ae.ai U1
 replace af := U1.ag af
 refine aJ (BR af ae hW (x := 28) (ins := ins) (by decide)) (fun v2 w2 D2 => ?_)
 obtain ⟨e11, c1, cur1, rfl, hW1, hm11, M2, N2, U2⟩ := D2
 replace ae := N2
 replace af := M2
 replace hF := hF.go0 U1
 replace hF := hF.go U2 (fun i h hs => Or.elim (show aC _ _ ∨ _ = _ from hs) (fun hs => .inl hs) (fun hb => by (subst hb; omega)))
 refine ay (kL _ _ _ _ _) (fun h3 => ?_) (fun h3 => ?_)
 refine aH ?_
 rcases hm11 with ⟨hq, ho, hm⟩ | ⟨hq, hc, hu⟩ <;> first | exact ⟨_, rfl, _, _, _, rfl, hW1, .inr ⟨hq, hc, hu⟩, af, ae, hF⟩ | (exfalso; simp_all; done)
 refine aB ?_
 have hn1 := hW1.1
 refine aJ (qR af ae hW1.1 (i := cur)) (fun v5 w5 D5 => ?_)
 obtain ⟨rfl, N5, U5⟩ := D5
 replace ae := ae.aA U5 (Own.aP ae (by assumption) (by decide))
 replace af := N5
 replace hF := hF.go U5 (fun i _ h => .inr h)
 rw [if_pos (by omega)] at af
 refine aJ (Eb af ae (hW1.at hcu)) (fun v6 w6 D6 => ?_)
 obtain ⟨cur2, rfl, hW2, N6, U6⟩ := D6
 replace ae := ae.aA U6 (Own.aP ae (by assumption) (by decide))
 replace af := N6
 replace hF := hF.go U6 (fun i _ h => .inr h)
 rcases hm11 with ⟨hq, ho, hm⟩ | ⟨hq, hc, hu⟩ <;> first | exact ⟨_, rfl, _, _, _, rfl, hW2, .inl ⟨rfl, ho, hm⟩, af, ae, hF⟩ | (exfalso; simp_all; done)
theorem QJ {r c cur : Int} {A : Option Addr} {n cp bp B0 : Nat} {cs : List Gs.Cell} {w : World} (af : Z.h w bp #[Z.i r, Z.i c, .slice A n cp, Z.i cur] 91) (ae : Own B0 w 37 5 (.slice A n cp) (rows Gs.cv cs)) (hW : Gs.Pw r c n cs cur) {ins : Bool} :
    oX 93 #[Z.p bp, .bool ins] w fun e w' => ∃ v, e = .returned v ∧ ∃ (q : Int) (c1 : List Gs.Cell) (cur1 : Int), v = Z.i q ∧ Gs.Pw r c n c1 cur1 ∧ ((q = 0 ∧ Gs.kG cs cur = true ∧ Gs.Mk cs c1 cur) ∨ (q ≠ 0 ∧ c1 = cs ∧ cur1 = cur)) ∧ Z.h w' bp #[Z.i r, Z.i c, .slice A n cp, Z.i cur1] 91 ∧ Own B0 w' 37 5 (.slice A n cp) (rows Gs.cv c1) ∧ az (fun k => aC (.slice A n cp) k ∨ k = bp) w w' := by
 refine F93.calls ?_
 unfold F93
 obtain ⟨hn, hcw, hcu, hp, hN, hb⟩ := id hW; have hrc := hW.rc
 have hF : az (fun k => aC (.slice A n cp) k ∨ k = bp) w w := Fr.refl _ _ _
 refine aJ (BR af ae hW (x := 30) (ins := ins) (by decide)) (fun v1 w1 D1 => ?_)
 obtain ⟨e7, c1, cur1, rfl, hW1, hm7, M1, N1, U1⟩ := D1
 replace ae := N1
 replace af := M1
 replace hF := hF.go U1 (fun i h hs => Or.elim (show aC _ _ ∨ _ = _ from hs) (fun hs => .inl hs) (fun hb => by (subst hb; omega)))
 exact ⟨_, rfl, _, _, _, rfl, hW1, hm7, af, ae, hF⟩
theorem VK {r c cur : Int} {A : Option Addr} {n cp bp B0 : Nat} {cs : List Gs.Cell} {w : World} (af : Z.h w bp #[Z.i r, Z.i c, .slice A n cp, Z.i cur] 91) (ae : Own B0 w 37 5 (.slice A n cp) (rows Gs.cv cs)) (hW : Gs.Pw r c n cs cur)  :
    oX 90 #[Z.p bp] w fun e w' => ∃ v, e = .returned v ∧ ∃ (q : Int) (cs : List Gs.Cell) (cur : Int), v = Z.i q ∧ Gs.Pw r c n cs cur ∧ Z.h w' bp #[Z.i r, Z.i c, .slice A n cp, Z.i cur] 91 ∧ Own B0 w' 37 5 (.slice A n cp) (rows Gs.cv cs) ∧ az (fun k => aC (.slice A n cp) k ∨ k = bp) w w' := by
 refine WQ.calls ?_
 unfold WQ
 obtain ⟨hn, hcw, hcu, hp, hN, hb⟩ := id hW; have hrc := hW.rc
 have uA := au af
 have jP := Own.lt ae
 have hF : az (fun k => aC (.slice A n cp) k ∨ k = bp) w w := Fr.refl _ _ _
 refine Z.x _ (fun b1 w1 e1 ah _ U1 => ?_)
 have jW : bp ≠ b1 := by have := au af; omega
 have gV := ae.apart e1
 have bU : w.heap.size ≤ b1 := by have := hF.size; omega
 refine bH (fun g w' => ∃ (cs : List Gs.Cell) (m : Int), (g 3 = Z.i m) ∧ (Z.h w' bp #[Z.i r, Z.i c, .slice A n cp, Z.i cur] 91) ∧ (Own B0 w' 37 5 (.slice A n cp) (rows Gs.cv cs)) ∧ (Gs.Pw r c n cs cur) ∧ (Z.h w' b1 #[Z.p bp] 33) ∧ (az (fun k => aC (.slice A n cp) k ∨ k = bp) w w')) (fun J1 hJ1 => ?_) (fun gJ1 jX hI => ?_)
 refine Z.l ah ?_
 replace ae := ae.ai U1
 replace af := U1.ag af
 refine aG (eY af ae hn) (fun w2 U2 => ?_)
 refine dW (fun g w' => ∃ (k : Nat) (cs : List Gs.Cell) (m : Int), (g 9 = Z.i (k : Int)) ∧ (k ≤ n) ∧ (g 3 = Z.i m) ∧ (Z.h w' bp #[Z.i r, Z.i c, .slice A n cp, Z.i cur] 91) ∧ (Own B0 w' 37 5 (.slice A n cp) (rows Gs.cv cs)) ∧ (Gs.Pw r c n cs cur) ∧ (Z.h w' b1 #[Z.p bp] 33) ∧ (az (fun k => aC (.slice A n cp) k ∨ k = bp) w w')) (fun g w' => n - (RowKit.intOf (g 9)).toNat) ?_ (fun g2 qj hI => ?_)
 replace hF := (hF.go0 U1).go0 U2
 replace ae := ae.ai U2
 replace af := U2.ag af
 replace ah := U2.ag ah
 exact ⟨0, cs, 0, (by rfl), Nat.zero_le _, (by rfl), af, ae, hW, ah, hF⟩
 replace hF := (hF.go0 U1).go0 U2
 replace ae := ae.ai U2
 replace af := U2.ag af
 replace ah := U2.ag ah
 obtain ⟨k, cs, m, g9, hk, g3, af, ae, hW, ah, hF⟩ := hI
 rw [g9]
 rw [g3]
 obtain ⟨hn, hcw, hcu, hp, hN, hb⟩ := id hW
 refine ay (lss _ _ _ _) (fun h3 => ?_) (fun h3 => ?_)
 refine aH ?_
 refine bH (fun g w' => ∃ (cs : List Gs.Cell) (m : Int), (g 3 = Z.i m) ∧ (Z.h w' bp #[Z.i r, Z.i c, .slice A n cp, Z.i cur] 91) ∧ (Own B0 w' 37 5 (.slice A n cp) (rows Gs.cv cs)) ∧ (Gs.Pw r c n cs cur) ∧ (Z.h w' b1 #[Z.p bp] 33) ∧ (az (fun k => aC (.slice A n cp) k ∨ k = bp) w w')) (fun J3 hJ3 => ?_) (fun gJ3 Ha hI => ?_)
 refine Z.l ah ?_
 refine dS (nN af ae hn hN hb hcw (i := (k : Int))) (fun w4 U4 h4 => ?_) (fun w4 U4 h4 => ?_)
 refine aH ?_
 replace ah := U4.ag ah
 refine Z.l ah ?_
 refine aj (bz (l := [(0, 1), (1, 1), (2, 1), (3, 1), (4, 1)]) (z := #[Z.u 0, .bool false, .bool false, Z.u 0, Z.u 0]) (cs := (Gs.cv Gs.zc)) (by kernel_rfl) (by rfl)) ?_
 replace ae := ae.ai U4
 replace af := U4.ag af
 refine aJ (jG af ae hn (i := (k : Int)) (x := Gs.zc)) (fun v5 w5 D5 => ?_)
 obtain ⟨rfl, N5, U5⟩ := D5
 have aK := ae
 replace af := U5.get af (fun h => Own.aP aK af (by decide) _ h rfl)
 replace ae := N5
 replace ah := U5.get ah (fun h => gV _ h rfl)
 replace hF := hF.go0 U4
 replace hF := hF.go U5 (fun i h hs => .inl hs)
 clear aK
 refine aj (FQ _ _ _ _) ?_
 refine hJ3 _ _ ?_
 exact ⟨_, _, (by rfl), af, ae, (by exact hW.set _ Gs.Am), ah, hF⟩
 refine aB ?_
 refine hJ3 _ _ ?_
 replace ae := ae.ai U4
 replace af := U4.ag af
 replace ah := U4.ag ah
 replace hF := hF.go0 U4
 exact ⟨_, _, (by exact g3), af, ae, (by exact hW), ah, hF⟩
 obtain ⟨cs, m, g3, af, ae, hW, ah, hF⟩ := hI
 obtain ⟨hn, hcw, hcu, hp, hN, hb⟩ := id hW
 refine aj (dF _ (by omega)) ?_
 exact ⟨⟨k + 1, _, _, (by rfl), by omega, (by exact g3), af, ae, hW, ah, hF⟩, cnt_lt (by rfl) rfl (by omega)⟩
 refine aB ?_
 refine hJ1 _ _ ?_
 exact ⟨_, _, (by exact g3), af, ae, hW, ah, hF⟩
 replace ae := ae.ai U1
 replace af := U1.ag af
 replace hF := hF.go0 U1
 obtain ⟨cs, m, g3, af, ae, hW, ah, hF⟩ := hI
 rw [g3]
 obtain ⟨hn, hcw, hcu, hp, hN, hb⟩ := id hW
 refine bH (fun g w' => ∃ (D5 : Nat) (cs : List Gs.Cell), (g 1000000 = mkV D5 undef) ∧ (w.heap.size ≤ D5) ∧ (w'.heap[D5]? = some (.deferred (some []))) ∧ (Z.h w' bp #[Z.i r, Z.i c, .slice A n cp, Z.i cur] 91) ∧ (Own B0 w' 37 5 (.slice A n cp) (rows Gs.cv cs)) ∧ (Gs.Pw r c n cs cur) ∧ (Z.h w' b1 #[Z.p bp] 33) ∧ (az (fun k => aC (.slice A n cp) k ∨ k = bp) w w')) (fun J4 hJ4 => ?_) (fun gJ4 wJ4 hI => ?_)
 refine Z.l ah ?_
 refine aJ (wO af ae hn) (fun v6 w6 D6 => ?_)
 obtain ⟨b1_23, rfl, g1_23, eG, U6⟩ := D6
 have VL : bp ≠ b1_23 := by have := au af; omega
 have yX : ∀ k, aC _ k → k ≠ b1_23 := fun k hk => by have := (Own.ge ae hk).2; omega
 have VM : b1 ≠ b1_23 := by have := au ah; omega
 have adT : w.heap.size ≤ b1_23 := by have := hF.size; omega
 refine tZ (by kernel_rfl) (fun w7 l5 D5 Rdy5 Bsy5 Dn5 y5 eD el dO ed lp1 lp2 lp3 sz7 U7 hY => ?_)
 have lp2_5 := lp2
 replace af := U6.ag af
 have SB : bp ≠ D5 := by have := au af; omega
 have lK : bp ≠ l5 := by have := au af; omega
 replace ae := ae.ai U6
 have zA : ∀ k, aC _ k → k ≠ D5 := fun k hk => by have := (Own.ge ae hk).2; omega
 have ja : ∀ k, aC _ k → k ≠ l5 := fun k hk => by have := (Own.ge ae hk).2; omega
 replace ah := U6.ag ah
 have Sz : b1 ≠ D5 := by have := au ah; omega
 have mi : b1 ≠ l5 := by have := au ah; omega
 have VN : b1_23 ≠ D5 := by have := au eG; omega
 have oW : b1_23 ≠ l5 := by have := au eG; omega
 replace hF := hF.go0 U6
 have yc : w.heap.size ≤ D5 := by have := hF.size; omega
 have qf : w.heap.size ≤ l5 := by have := hF.size; omega
 have lw : D5 ≠ l5 := by omega
 replace ae := ae.ai U7
 replace af := U7.ag af
 replace ah := U7.ag ah
 replace eG := U7.ag eG
 replace hF := hF.go0 U7
 refine Calls.mono (uq (b1 := b1_23) (csF := fun k => Gs.nZ cs ((Gs.bQ cs).take k)) (J := (fun (k : Nat) (w' : World) => (Z.h w' bp #[Z.i r, Z.i c, .slice A n cp, Z.i cur] 91) ∧ (Own B0 w' 37 5 (.slice A n cp) (rows Gs.cv (Gs.nZ cs ((Gs.bQ cs).take k)))) ∧ (Z.h w' b1_23 #[Z.p bp] 33) ∧ (Z.h w' b1 #[Z.p bp] 33) ∧ (w'.heap[D5]? = some (.deferred (some []))) ∧ (w'.heap[l5]? = some Rdy5) ∧ (az (fun k => aC (.slice A n cp) k ∨ k = bp) w w'))) (X := (fun _ => False)) (fun _ w' hJ => by obtain ⟨af, ae, eG, ah, dO, ed, hF⟩ := hJ; exact ⟨eG, af, ae⟩) (fun _ w' w'' hJ U' => by obtain ⟨af, ae, eG, ah, dO, ed, hF⟩ := hJ; exact ⟨U'.ag af, ae.ai U', U'.ag eG, U'.ag ah, U'.ag dO, U'.ag ed, hF.go0 U'⟩) (fun _ _ h _ => h.elim) (fun _ => hn.trans (Gs.uG cs _)) (fun _ => Gs.AU hcw _) (fun _ _ => by rw [Gs.Md, Gs.Md]) hN hb ?_ ?_) ?_
 intro k wl5 xk hx hI
 obtain ⟨af, ae, eG, ah, dO, ed, hF⟩ := hI
 have hx : (Gs.bQ cs)[k]? = some xk := hx
 have hk := (List.getElem?_eq_some_iff.1 hx).1
 have hxm := Gs.rf.1 (List.mem_of_getElem? hx)
 have hxn := hxm.1
 have hgw := Gs.qY (Gs.AU hcw ((Gs.bQ cs).take k)) (xk : Int)
 have hol := Gs.uG cs ((Gs.bQ cs).take k)
 refine hY [.agg (Gs.fv (Gs.je (Gs.nZ cs ((Gs.bQ cs).take k)) xk)).toArray] _ _ rfl ed ?_
 simp only [List.getD_cons_zero, List.getD_cons_succ]
 refine Z.n ((Gs.fv Gs.zf).toArray) (fun b8 w8 e8 dG _ U8 => ?_)
 have pO : bp ≠ b8 := by have := au af; omega
 have l7 := ae.apart e8
 have wP : b1_23 ≠ b8 := by have := au eG; omega
 have BU : b1 ≠ b8 := by have := au ah; omega
 have BV : D5 ≠ b8 := by have := au dO; omega
 have BX : l5 ≠ b8 := by have := au ed; omega
 have rq : w.heap.size ≤ b8 := by have := hF.size; omega
 refine Z.t 3 ((Gs.fv (Gs.je (Gs.nZ cs ((Gs.bQ cs).take k)) xk)).toArray) (by (simp [Value.cells, Value.oneCell', Gs.cv, Gs.fv, Gs.ie]; done)) dG (fun w9 dG _ U9 => ?_)
 replace ed := U9.ak (U8.ag ed) BX
 refine wM ed (fun w10 ed _ aT => ?_)
 refine Z.f 2 ?_
 replace dG := aT.ak dG (Ne.symm BX)
 refine Z.l dG ?_
 refine dS (mW (Gs.SN (Gs.AU hcw _) xk)) (fun oz bK h11 => ?_) (fun oz bK h11 => ?_)
 simp only [Z.d, Z.c] at h11
 refine aH ?_
 replace ed := bK.ag ed
 refine rP ed (fun w12 ed _ cZ => ?_)
 replace ae := ((((ae.ai U8).aA U9 l7).aA aT ja).ai bK).aA cZ ja
 replace af := cZ.ak (bK.ag (aT.ak (U9.ak (U8.ag af) pO) lK)) lK
 replace eG := cZ.ak (bK.ag (aT.ak (U9.ak (U8.ag eG) wP) oW)) oW
 replace ah := cZ.ak (bK.ag (aT.ak (U9.ak (U8.ag ah) BU) mi)) mi
 replace dO := cZ.ak (bK.ag (aT.ak (U9.ak (U8.ag dO) BV) lw)) lw
 replace hF := ((((hF.go0 U8).go1 U9 rq).go1 aT qf).go0 bK).go1 cZ qf
 exact ⟨af, (by rw [Gs.FT hx]; have hpr := Gs.FU hx; unfold Gs.qL; (rw [if_pos (decide_eq_true (by omega))]; exact ae)), eG, ah, dO, ed, hF⟩
 simp only [Z.d, Z.c] at h11
 refine aB ?_
 replace ah := bK.ag (aT.ak (U9.ak (U8.ag ah) BU) mi)
 refine Z.l ah ?_
 refine Z.f 0 ?_
 replace dG := bK.ag dG
 refine Z.l dG ?_
 replace ae := (((ae.ai U8).aA U9 l7).aA aT ja).ai bK
 replace af := bK.ag (aT.ak (U9.ak (U8.ag af) pO) lK)
 refine aG (iI af ae (hn.trans hol) (i := (xk : Int))) (fun uM dI => ?_)
 refine Z.n ((Gs.cv Gs.zc).toArray) (fun b14 sJ e14 dR _ dw => ?_)
 replace af := dI.ag af
 have qm : bp ≠ b14 := by have := au af; omega
 replace ae := ae.ai dI
 have nO := ae.apart e14
 replace eG := dI.ag (bK.ag (aT.ak (U9.ak (U8.ag eG) wP) oW))
 have vJ : b1_23 ≠ b14 := by have := au eG; omega
 replace ah := dI.ag ah
 have qo : b1 ≠ b14 := by have := au ah; omega
 replace dO := dI.ag (bK.ag (aT.ak (U9.ak (U8.ag dO) BV) lw))
 have zV : D5 ≠ b14 := by have := au dO; omega
 replace ed := dI.ag (bK.ag ed)
 have zW : l5 ≠ b14 := by have := au ed; omega
 replace dG := dI.ag dG
 have zX : b8 ≠ b14 := by have := au dG; omega
 replace hF := ((((hF.go0 U8).go1 U9 rq).go1 aT qf).go0 bK).go0 dI
 have pg : w.heap.size ≤ b14 := by have := hF.size; omega
 refine Z.t 5 ((Gs.cv (Gs.bJ (Gs.nZ cs ((Gs.bQ cs).take k)) xk)).toArray) (by (simp [Value.cells, Value.oneCell', Gs.cv, Gs.fv, Gs.ie]; done)) dR (fun uN dR _ dH => ?_)
 refine Z.f 0 ?_
 refine Z.l dR ?_
 refine aG (yh hgw) (fun w16 bZ => ?_)
 refine Z.f 0 ?_
 replace dR := bZ.ag dR
 refine Z.s dR (fun uo dR _ bY => ?_)
 replace ah := bY.ak (bZ.ag (dH.ak (dw.ag ah) qo)) qo
 refine Z.l ah ?_
 refine Z.f 0 ?_
 replace dG := bY.ak (bZ.ag (dH.ak (dw.ag dG) zX)) zX
 refine Z.l dG ?_
 refine Z.b 5 _ dR ?_
 replace ae := (((ae.ai dw).aA dH nO).ai bZ).aA bY nO
 replace af := bY.ak (bZ.ag (dH.ak (dw.ag af) qm)) qm
 refine aJ (jG af ae (hn.trans hol) (i := (xk : Int)) (x := Gs.Ec false (Gs.bJ (Gs.nZ cs ((Gs.bQ cs).take k)) xk))) (fun v18 uY D18 => ?_)
 obtain ⟨rfl, N18, dE⟩ := D18
 have aK := ae
 replace af := dE.get af (fun h => Own.aP aK af (by decide) _ h rfl)
 replace ae := N18
 replace eG := bY.ak (bZ.ag (dH.ak (dw.ag eG) vJ)) vJ
 replace eG := dE.get eG (fun h => yX _ h rfl)
 replace ah := dE.get ah (fun h => gV _ h rfl)
 replace dO := bY.ak (bZ.ag (dH.ak (dw.ag dO) zV)) zV
 replace dO := dE.get dO (fun h => zA _ h rfl)
 replace ed := bY.ak (bZ.ag (dH.ak (dw.ag ed) zW)) zW
 replace ed := dE.get ed (fun h => ja _ h rfl)
 replace hF := (((hF.go0 dw).go1 dH pg).go0 bZ).go1 bY pg
 replace hF := hF.go dE (fun i h hs => .inl hs)
 clear aK
 refine rP ed (fun yK ed _ eu => ?_)
 replace ae := ae.aA eu ja
 replace af := eu.ak af lK
 replace eG := eu.ak eG oW
 replace ah := eu.ak ah mi
 replace dO := eu.ak dO lw
 replace hF := hF.go1 eu qf
 exact ⟨af, (by rw [Gs.FT hx]; have hpr := Gs.FU hx; unfold Gs.qL; (rw [if_neg (fun hq => by have := of_decide_eq_true hq; omega)]; exact ae)), eG, ah, dO, ed, hF⟩
 exact ⟨af, ae, eG, ah, dO, ed, hF⟩
 rintro e wE5 ⟨hv, hI | hI⟩
 obtain ⟨af, ae, eG, ah, dO, ed, hF⟩ := hI
 refine ⟨hv, .inl ⟨ed, fun wE _ dJ => ?_⟩⟩
 refine hJ4 _ _ ?_
 replace ae := ae.aA dJ ja
 replace af := dJ.ak af lK
 replace ah := dJ.ak ah mi
 replace dO := dJ.ak dO lw
 replace hF := hF.go1 dJ qf
 exact ⟨_, _, (by rfl), yc, dO, af, ae, (hW.opn _), ah, hF⟩
 exact hI.elim
 obtain ⟨D5, cs, g1000000, yc, dO, af, ae, hW, ah, hF⟩ := hI
 rw [g1000000]
 obtain ⟨hn, hcw, hcu, hp, hN, hb⟩ := id hW
 refine dQ (S := no) (fun BD dL => ?_)
 replace ah := dL.ag ah
 refine Z.m ah ?_
 refine Z.m ah ?_
 replace ae := ae.ai dL
 replace af := dL.ag af
 refine fU (fun w' hw' => by have af := hw'.ag af; have ae := ae.ai hw'; exact BN af ae hn hN hb hcw) ?_
 have hhb := Gs.Ji (cs := cs) (by omega)
 refine aF (fun AB eF => ?_)
 replace ae := ae.ai eF
 replace af := eF.ag af
 refine aJ (qR af ae hn (i := Gs.sD cs)) (fun v24 Po D24 => ?_)
 obtain ⟨rfl, N24, jm⟩ := D24
 replace dO := eF.ag (dL.ag dO)
 replace hF := (hF.go0 dL).go0 eF
 replace ae := ae.aA jm (Own.aP ae (by assumption) (by decide))
 replace dO := jm.ak dO (by omega)
 replace af := N24
 replace hF := hF.go jm (fun i _ h => .inr h)
 rw [if_pos (by omega)] at af
 refine aF (fun Hy iD => ?_)
 replace dO := iD.ag dO
 refine leave1 dO (fun Ic _ ig => ?_)
 replace ae := ae.ai iD
 replace af := iD.ag af
 replace hF := hF.go0 iD
 replace ae := ae.aA ig (Own.lh ae (by assumption))
 replace af := ig.ak af (by omega)
 replace hF := hF.go1 ig yc
 exact ⟨_, rfl, _, _, _, rfl, hW.at (by omega), af, ae, hF⟩
end Go.Proofs.YtjdoakbadehicaaGreatDoor
end
section
namespace Gs
open Go Go.Sh
structure Pr where
 t : Int
 v : Int
deriving DecidableEq
def pe (x : Pr) : List Value := [.int .u8 x.t, .int .u8 x.v]
theorem Bf : Enc pe 2 := ⟨fun _ => rfl, fun a u hu => by
 simp only [pe, List.mem_cons, List.mem_nil_iff, or_false] at hu
 rcases hu with rfl | rfl <;> rfl, by decide⟩
def zpr : Pr := ⟨0, 0⟩
def Xq (x : Pr) : Prop := (0 ≤ x.t ∧ x.t ≤ 255) ∧ (0 ≤ x.v ∧ x.v ≤ 255)
structure iV where
 k : Int
 a : Int
 b : Int
 ge : Bool
 pA : Option Addr
 pc : Nat
 ps : List Pr
 dA : Option Addr
 dc : Nat
 ds : List Int
def oe (x : iV) : List Value := [.int .u8 x.k, .int .i64 x.a, .int .u8 x.b, .bool x.ge, .slice x.pA x.ps.length x.pc, .slice x.dA x.ds.length x.dc]
theorem AQ : Enc oe 6 := ⟨fun _ => rfl, fun a u hu => by
 simp only [oe, List.mem_cons, List.mem_nil_iff, or_false] at hu
 rcases hu with rfl | rfl | rfl | rfl | rfl | rfl <;> rfl, by decide⟩
def yL (x : iV) : Prop := (0 ≤ x.k ∧ x.k ≤ 255) ∧ (0 ≤ x.b ∧ x.b ≤ 255) ∧ Bs x.ds ∧ ∀ p ∈ x.ps, Xq p
def BM (l : List iV) : Prop := ∀ x ∈ l, yL x
theorem BM.get {l : List iV} (h : BM l) {k : Nat} {x : iV} (hx : l[k]? = some x) : yL x := h x (List.mem_of_getElem? hx)
theorem BM.snoc {l : List iV} (h : BM l) {x : iV} (hx : yL x) : BM (l ++ [x]) := fun y hy => by
 rcases List.mem_append.1 hy with hy | hy
 ·exact h y hy
 ·rw [List.mem_singleton.1 hy]; exact hx
def kz (w : World) (l : List iV) : Prop := ∀ x ∈ l, Rd w x.pA (rows pe x.ps) ∧ Rd w x.dA (vals .u8 x.ds)
def jI (l : List iV) (k : Nat) : Prop := ∃ x ∈ l, (x.ps ≠ [] ∧ fO x.pA k) ∨ (x.ds ≠ [] ∧ fO x.dA k)
def XD (l : List iV) (B : Nat) : Prop := l = [] ∨ ∀ k, jI l k → k < B
theorem XD.ne {l : List iV} {B : Nat} (h : XD l B) {b : Nat} (hb : B ≤ b) : l = [] ∨ ∀ k, jI l k → k ≠ b := h.imp_right fun h k hk => by have := h k hk; omega
theorem XD.mono {l : List iV} {B B' : Nat} (h : XD l B) (hb : B ≤ B') : XD l B' := h.imp_right fun h k hk => by have := h k hk; omega
theorem amz {cs : List Pr} (h : cs ≠ []) : rows pe cs ≠ [] := fun e => by
 have := congrArg List.length e
 rw [dV Bf] at this
 cases cs
 ·exact h rfl
 ·simp at this
theorem kz.lt {w : World} {l : List iV} (h : kz w l) : XD l w.heap.size := by
 refine .inr fun k ⟨x, hx, hk⟩ => ?_
 rcases hk with ⟨hne, hk⟩ | ⟨hne, hk⟩
 ·rcases (h x hx).1.lt with h2 | h2
  ·exact absurd h2 (amz hne)
  ·exact h2 k hk
 ·rcases (h x hx).2.lt with h2 | h2
  ·exact absurd (List.map_eq_nil_iff.1 h2) hne
  ·exact h2 k hk
theorem kz.eH {S : Nat → Prop} {w w' : World} {l : List iV} (h : kz w l) (u : az S w w') (hs : l = [] ∨ ∀ k, jI l k → ¬ S k) : kz w' l := by
 intro x hx
 rcases hs with rfl | hs
 ·cases hx
 ·constructor
  ·refine (h x hx).1.eH u ?_
   by_cases hc : x.ps = []
   ·left; rw [hc]; rfl
   ·right; exact fun k hk => hs k ⟨x, hx, .inl ⟨hc, hk⟩⟩
  ·refine (h x hx).2.eH u ?_
   by_cases hc : x.ds = []
   ·left; rw [hc]; rfl
   ·right; exact fun k hk => hs k ⟨x, hx, .inr ⟨hc, hk⟩⟩
theorem kz.ai {w w' : World} {l : List iV} (h : kz w l) (u : az no w w') : kz w' l := h.eH u (.inr fun _ _ => id)
theorem kz.aA {w w' : World} {l : List iV} {b : Nat} (h : kz w l) (u : az (· = b) w w') (hs : l = [] ∨ ∀ k, jI l k → k ≠ b) : kz w' l := h.eH u hs
theorem kz.apart {w : World} {l : List iV} (h : kz w l) {b : Nat} (hb : b = w.heap.size) : l = [] ∨ ∀ k, jI l k → k ≠ b := h.lt.ne (by omega)
theorem kz.get {w : World} {l : List iV} (h : kz w l) {k : Nat} {x : iV} (hx : l[k]? = some x) : kz w [x] := fun y hy => by
 cases List.mem_singleton.1 hy; exact h x (List.mem_of_getElem? hx)
theorem kz.nil (w : World) : kz w [] := fun x hx => by cases hx
theorem kz.one {w : World} {x : iV} (h : Rd w x.pA (rows pe x.ps)) (k : Rd w x.dA (vals .u8 x.ds)) : kz w [x] := fun y hy => by
 cases List.mem_singleton.1 hy; exact ⟨h, k⟩
theorem kz.p {w : World} {x : iV} (h : kz w [x]) : Rd w x.pA (rows pe x.ps) := (h x (List.mem_cons_self ..)).1
theorem kz.d {w : World} {x : iV} (h : kz w [x]) : Rd w x.dA (vals .u8 x.ds) := (h x (List.mem_cons_self ..)).2
theorem kz.snoc {w : World} {l : List iV} {x : iV} (h : kz w l) (hx : kz w [x]) : kz w (l ++ [x]) := fun y hy => by
 rcases List.mem_append.1 hy with hy | hy
 ·exact h y hy
 ·exact hx y hy
theorem Uy {l : List iV} {x : iV} {k : Nat} (h : jI (l ++ [x]) k) : jI l k ∨ jI [x] k := by
 obtain ⟨y, hy, h⟩ := h
 rcases List.mem_append.1 hy with hy | hy
 ·exact .inl ⟨y, hy, h⟩
 ·exact .inr ⟨y, hy, h⟩
theorem aiv {l : List iV} {x : iV} {i k : Nat} (hx : l[i]? = some x) (h : jI [x] k) : jI l k := by
 obtain ⟨y, hy, h⟩ := h
 cases List.mem_singleton.1 hy
 exact ⟨x, List.mem_of_getElem? hx, h⟩
theorem akM {S' : World} {v v' : Value} {l : List iV} (old : l = [] ∨ ∀ k, jI l k → ¬ aC v k) (lt : kz S' l) (hA : ∀ k, aC v' k → aC v k ∨ S'.heap.size ≤ k) : l = [] ∨ ∀ k, jI l k → ¬ aC v' k := by
 rcases old with h | h
 ·exact .inl h
 ·rcases lt.lt with h2 | h2
  ·exact .inl h2
  ·refine .inr fun k hk ho => ?_
   rcases hA k ho with h3 | h3
   ·exact h k hk h3
   ·have := h2 k hk; omega
end Gs
namespace Go.Sh
open Go Gs
def nK (T B : Nat) (w : World) (br : Nat) (bs : List Int) (at' : Nat) : Prop :=
 ∃ A c, w.heap[br]? = some (.cells #[.slice A bs.length c, .int .i64 at'] T (0, 0)) ∧ Rd w A (vals .u8 bs) ∧ bs.length ≤ c ∧ Bs bs ∧ br < B ∧ at' ≤ bs.length ∧ (bs = [] ∨ ∀ k, fO A k → k < B ∧ k ≠ br)
theorem nK.lt {T B : Nat} {w : World} {br at' : Nat} {bs : List Int} (h : nK T B w br bs at') : br < B := by obtain ⟨A, c, _, _, _, _, h, _⟩ := h; exact h
theorem nK.bs {T B : Nat} {w : World} {br at' : Nat} {bs : List Int} (h : nK T B w br bs at') : Bs bs := by obtain ⟨A, c, _, _, _, h, _⟩ := h; exact h
theorem nK.le {T B : Nat} {w : World} {br at' : Nat} {bs : List Int} (h : nK T B w br bs at') : at' ≤ bs.length := by obtain ⟨A, c, _, _, _, _, _, h, _⟩ := h; exact h
theorem nK.upd {T B : Nat} {w : World} {br at' : Nat} {bs : List Int} {S : Nat → Prop} {w' : World} (h : nK T B w br bs at') (u : az S w w') (hS : ∀ k, k < B → ¬ S k) : nK T B w' br bs at' := by
 obtain ⟨A, c, h1, h2, h3, h4, h5, h6, h7⟩ := h
 refine ⟨A, c, u.get h1 (hS _ h5), h2.eH u ?_, h3, h4, h5, h6, h7⟩
 exact h7.imp (fun e => by rw [e]; rfl) (fun h k hk => hS k (h k hk).1)
theorem nK.ai {T B : Nat} {w : World} {br at' : Nat} {bs : List Int} {w' : World} (h : nK T B w br bs at') (u : az no w w') : nK T B w' br bs at' := h.upd u (fun _ _ h => h)
end Go.Sh
namespace Go.Sh
open Go Gs
def prA (w : World) (br : Nat) : Nat := match w.heap[br]? with | some (.cells cs _ _) => (match cs.toList with | _ :: Value.int _ x :: _ => x.toNat | _ => 0) | _ => 0
theorem Nr {w : World} {br T at' : Nat} {v : Value} {f : Nat × Nat} (h : w.heap[br]? = some (.cells #[v, .int .i64 (at' : Int)] T f)) : prA w br = at' := by
 unfold prA; rw [h]; simp
end Go.Sh
namespace Gs
open Go Go.Sh
def bT (k a b : Int) (ge : Bool) : iV := ⟨k, a, b, ge, none, 0, [], none, 0, []⟩
theorem IR {k a b : Int} {ge : Bool} (hk : 0 ≤ k ∧ k ≤ 255) (hb : 0 ≤ b ∧ b ≤ 255) : yL (bT k a b ge) := ⟨hk, hb, (by intro x h; cases h), (by intro x h; cases h)⟩
def Lh (k : Int) (A : Option Addr) (c : Nat) (l : List Pr) : iV := ⟨k, 0, 0, false, A, c, l, none, 0, []⟩
theorem ac0 {k : Int} {A : Option Addr} {c : Nat} {l : List Pr} (hk : 0 ≤ k ∧ k ≤ 255) (h : ∀ p ∈ l, Xq p) : yL (Lh k A c l) := ⟨hk, (by show 0 ≤ (0 : Int) ∧ (0 : Int) ≤ 255; decide), (by intro x h; cases h), h⟩
def OX (A : Option Addr) (c : Nat) (l : List Int) : iV := ⟨0, 0, 0, false, none, 0, [], A, c, l⟩
theorem akC {A : Option Addr} {c : Nat} {l : List Int} (h : Bs l) : yL (OX A c l) := ⟨(by show 0 ≤ (0 : Int) ∧ (0 : Int) ≤ 255; decide), (by show 0 ≤ (0 : Int) ∧ (0 : Int) ≤ 255; decide), h, (by intro x h; cases h)⟩
end Gs
namespace Go.Sh
open Go
variable {P : Program} {w : World} {T : World → World → Prop} {Q : Value → Prop}
theorem aih {t n cap : Nat} {A : Option Addr} {xs : List Int} {k k1 k2 : IntKind} {lo hi : Int} (ht : yJ P t = some 1) (hr : Rd w A (vals k xs)) (hl : n = xs.length) (h0 : 0 ≤ lo) (h1 : lo ≤ hi) (h2 : hi ≤ n) (hc : n ≤ cap)
  (h : ∀ A' c', Rd w A' (vals k ((xs.drop lo.toNat).take (hi.toNat - lo.toNat))) → Q (.slice A' (hi.toNat - lo.toNat) c')) :
  aQ T w (fun w K => aX ((Instr.sliceAt t (.slice A n cap) (some (.int k1 lo)) (some (.int k2 hi)) none).run P w) aO K) Q := by
 unfold yJ at ht
 split at ht
 ·rename_i e hu
  have hel : P.elem t = e := by simp [Program.elem, hu]
  have hu' : P.underlying t = some (.slice (P.elem t)) := by rw [hel]; exact hu
  refine bi (v := sliced A lo.toNat hi.toNat cap 1) (fun w' _ => ?_) (h _ _ ?_)
  ·have hr1 := run_slice_lh (P := P) w' t A n cap hu' k1 k2 lo hi h0 h1 (by omega)
   rw [tV (P := P) (w := w') (by rw [hel]; exact ht)] at hr1
   have hr2 := run_sliceAt_slice (P := P) w' t (.slice A n cap) (some (.int k1 lo)) (some (.int k2 hi)) none hu'
   rw [hr1] at hr2
   exact hr2
  subst hl
  by_cases he : cap = lo.toNat
  ·have : lo.toNat = xs.length := by omega
   left
   simp [vals, this]
  ·rw [if_neg he]
   cases A with
   | none =>
    rcases hr with hx | ⟨a, ha, _⟩
    ·have := congrArg List.length hx; rw [vals_length] at this; simp at this; subst this; left; simp [vals]
    ·cases ha
   | some a =>
    have := (hr.drop lo.toNat).take (hi.toNat - lo.toNat)
    rw [Nat.mul_one]
    simpa [vals, List.map_drop, List.map_take] using this
 ·cases ht
end Go.Sh
namespace Go.Sh
open Go Gs
theorem Uz {B e s : Nat} {w : World} {v v' : Value} {xs : List Value} (h : Own B w e s v xs) (q : v' = v) : Own B w e s v' xs := q ▸ h
theorem XE {A : Option Addr} {n c k : Nat} (h : fO A k) : aC (.slice A n c) k := by obtain ⟨a, rfl, rfl⟩ := h; rfl
theorem aiu {S : Nat → Prop} {os : List iV} {x : iV} (h : os = [] ∨ ∀ k, jI os k → ¬ S k) (hP : ∀ k, aC (.slice x.pA x.ps.length x.pc) k → ¬ S k) (hD : ∀ k, aC (.slice x.dA x.ds.length x.dc) k → ¬ S k) :
  os ++ [x] = [] ∨ ∀ k, jI (os ++ [x]) k → ¬ S k := by
 refine .inr fun k hk => ?_
 rcases Uy hk with hk | ⟨y, hy, hk⟩
 ·rcases h with rfl | h
  ·obtain ⟨y, hy, _⟩ := hk; cases hy
  ·exact h k hk
 ·cases List.mem_singleton.1 hy
  rcases hk with ⟨_, hk⟩ | ⟨_, hk⟩
  ·exact hP k (XE hk)
  ·exact hD k (XE hk)
theorem ait {B e1 e2 s1 s2 : Nat} {w : World} {x : iV} {l1 l2 : List Value} (hP : Own B w e1 s1 (.slice x.pA x.ps.length x.pc) l1) (hD : Own B w e2 s2 (.slice x.dA x.ds.length x.dc) l2) {k : Nat} (h : jI [x] k) : B ≤ k := by
 obtain ⟨y, hy, hk⟩ := h
 cases List.mem_singleton.1 hy
 rcases hk with ⟨_, hk⟩ | ⟨_, hk⟩
 ·exact (hP.G5 k hk).1
 ·exact (hD.G5 k hk).1
end Go.Sh
end
section
namespace Gs
open Go Go.Sh
structure iU where
 k : Int
 a : Int
 b : Int
 ge : Bool
 ps : List Pr
 ds : List Int
deriving DecidableEq
def iV.m (x : iV) : iU := ⟨x.k, x.a, x.b, x.ge, x.ps, x.ds⟩
def wF (l : List iV) : List iU := l.map iV.m
theorem aeU (l : List iV) (x : iV) : wF (l ++ [x]) = wF l ++ [x.m] := by unfold wF; rw [List.map_append]; rfl
theorem Xv (l : List iV) : (wF l).length = l.length := List.length_map ..
theorem Xw {l : List iV} {k : Nat} {x : iV} (h : l[k]? = some x) : (wF l)[k]? = some x.m := by unfold wF; rw [List.getElem?_map, h]; rfl
def sG : List Int → Except Int (Int × List Int)
 | [] => .error 20
 | c :: r => if c < 64 then .error 31 else .ok (c, r)
def oh (k : Int) (x : Pr) : Int :=
 if k = 41 ∨ k = 44 then (if x.t = 65 ∨ x.t = 66 ∨ x.t = 192 then 0 else 33) else
 if k = 40 then (if x.t = 65 ∨ x.t = 66 ∨ (x.t = 0 ∧ x.v = 0) then 0 else 33) else 33
def jQ (k : Int) : Nat → List Int → Except Int (List Pr × List Int)
 | 0, l => .ok ([], l)
 | n + 1, l => match l with
  | t :: v :: r => if oh k ⟨t, v⟩ ≠ 0 then .error (oh k ⟨t, v⟩) else (match jQ k n r with | .error e => .error e | .ok (ps, r') => .ok (⟨t, v⟩ :: ps, r'))
  | _ => .error 20
def sV (l : List Int) : Except Int ((Int × Int × Bool) × List Int) :=
 match kP l with
 | .error e => .error e
 | .ok (p, r) => match fJ r with
  | .error e => .error e
  | .ok (c, r1) => if c = 8 then (match sG r1 with | .error e => .error e | .ok (d, r2) => .ok ((p, d, true), r2)) else if fG c = true then .ok ((p, c, false), r1) else .error 31
def jD : List Int → Except Int (iU × List Int)
 | [] => .error 20
 | c :: r => if fG c = true then .ok (⟨0, 0, 0, false, [], (c :: r).takeWhile fG⟩, (c :: r).dropWhile fG) else
  if c = 17 ∨ c = 18 then (match kP r with | .error e => .error e | .ok (p, r1) => .ok (⟨c, p, 0, false, [], []⟩, r1)) else
  if c = 29 then (match fJ r with | .error e => .error e | .ok (y, r1) => .ok (⟨c, 0, y % 64, false, [], []⟩, r1)) else
  if c = 41 ∨ c = 44 then (match fJ r with | .error e => .error e | .ok (n, r1) => match jQ c n.toNat r1 with | .error e => .error e | .ok (ps, r2) => .ok (⟨c, 0, 0, false, ps, []⟩, r2)) else
  if c = 40 then (match jQ c 1 r with | .error e => .error e | .ok (ps, r2) => .ok (⟨c, 0, 0, false, ps, []⟩, r2)) else
  if c = 19 ∨ c = 5 then .ok (⟨c, 0, 0, false, [], []⟩, r) else
  if c = 60 then (match sV r with | .error e => .error e | .ok ((p, d, g), r2) => .ok (⟨c, p, d, g, [], []⟩, r2)) else
  if c = 8 then (match sG r with | .error e => .error e | .ok (d, r1) => .ok (⟨c, 0, d, false, [], []⟩, r1)) else .error 31
theorem Qa {l r : List Int} {c : Int} (h : sG l = .ok (c, r)) : r.length < l.length := by
 unfold sG at h
 split at h
 ·cases h
 ·split at h
  ·cases h
  ·cases h; simp
theorem DV {l r : List Int} {c : Int} (h : fJ l = .ok (c, r)) : r.length < l.length := by rw [dU h]; simp
theorem Gy {k : Int} : ∀ {n : Nat} {l r : List Int} {ps : List Pr}, jQ k n l = .ok (ps, r) → r.length ≤ l.length
 | 0, l, r, ps, h => by unfold jQ at h; cases h; exact Nat.le_refl _
 | n + 1, l, r, ps, h => by
  unfold jQ at h
  split at h
  ·split at h
   ·cases h
   ·split at h
    ·cases h
    ·rename_i h2
     cases h
     have := Gy h2
     simp only [List.length_cons]; omega
  ·cases h
theorem aeX {l r : List Int} {x : Int × Int × Bool} (h : sV l = .ok (x, r)) : r.length < l.length := by
 unfold sV at h
 split at h
 ·cases h
 ·rename_i h1
  have := yx h1
  split at h
  ·cases h
  ·rename_i h2
   have := DV h2
   split at h
   ·split at h
    ·cases h
    ·rename_i h3
     have := Qa h3
     cases h; omega
   ·split at h
    ·cases h; omega
    ·cases h
theorem Ho {p : Int → Bool} : ∀ l : List Int, (l.dropWhile p).length ≤ l.length
 | [] => Nat.le_refl _
 | x :: l => by
  have := Ho (p := p) l
  rw [List.dropWhile_cons]
  split
  ·simp only [List.length_cons]; omega
  ·exact Nat.le_refl _
theorem Lj {l r : List Int} {x : iU} (h : jD l = .ok (x, r)) : r.length < l.length := by
 unfold jD at h
 split at h
 ·cases h
 ·rename_i c r0
  simp only [List.length_cons]
  split at h
  ·rename_i hp
   cases h
   rw [List.dropWhile_cons, if_pos hp]
   have := Ho (p := fG) r0
   omega
  split at h
  ·split at h
   ·cases h
   ·rename_i h1; cases h; have := yx h1; omega
  split at h
  ·split at h
   ·cases h
   ·rename_i h1; cases h; have := DV h1; omega
  split at h
  ·split at h
   ·cases h
   ·rename_i h1
    split at h
    ·cases h
    ·rename_i h2; cases h; have := DV h1; have := Gy h2; omega
  split at h
  ·split at h
   ·cases h
   ·rename_i h2; cases h; have := Gy h2; omega
  split at h
  ·cases h; omega
  split at h
  ·split at h
   ·cases h
   ·rename_i h1; cases h; have := aeX h1; omega
  split at h
  ·split at h
   ·cases h
   ·rename_i h1; cases h; have := Qa h1; omega
  ·cases h
def jl (l : List Int) : List iU × Int :=
 if l = [] then ([], 0) else
 match h : jD l with
 | .error e => ([], e)
 | .ok (x, r) => (x :: (jl r).1, (jl r).2)
termination_by l.length
decreasing_by all_goals exact Lj h
theorem wW : jl [] = ([], 0) := by unfold jl; rfl
theorem IU {l : List Int} {e : Int} (hl : l ≠ []) (h : jD l = .error e) : jl l = ([], e) := by
 unfold jl
 rw [if_neg hl]
 split
 ·rename_i h2; rw [h] at h2; cases h2; rfl
 ·rename_i h2; rw [h] at h2; cases h2
theorem IV {l r : List Int} {x : iU} (hl : l ≠ []) (h : jD l = .ok (x, r)) : jl l = (x :: (jl r).1, (jl r).2) := by
 rw [jl, if_neg hl]
 split
 ·rename_i h2; rw [h] at h2; cases h2
 ·rename_i h2; rw [h] at h2; cases h2; rfl
def preO (l : List iU) (x : List iU × Int) : List iU × Int := (l ++ x.1, x.2)
theorem aeS (x : List iU × Int) : x = preO [] x := rfl
theorem ac1 {a : List iU × Int} {l : List iU} {cur r : List Int} {x : iU} (h : a = preO l (jl cur)) (hl : cur ≠ []) (hx : jD cur = .ok (x, r)) : a = preO (l ++ [x]) (jl r) := by
 rw [h, IV hl hx]; unfold preO; simp
theorem aeV {a : List iU × Int} {l : List iU} {cur : List Int} {e : Int} (h : a = preO l (jl cur)) (hl : cur ≠ []) (hx : jD cur = .error e) : a = (l, e) := by
 rw [h, IU hl hx]; unfold preO; simp
theorem aeW {a : List iU × Int} {l : List iU} {cur : List Int} (h : a = preO l (jl cur)) (hl : cur = []) : a = (l, 0) := by
 rw [h, hl, wW]; unfold preO; simp
theorem drop_at {bs : List Int} {pa : Nat} {y : Int} (h : bs[pa]? = some y) : bs.drop pa = y :: bs.drop (pa + 1) := by
 obtain ⟨hl, he⟩ := List.getElem?_eq_some_iff.1 h
 rw [List.drop_eq_getElem_cons hl, he]
theorem Le {bs : List Int} {pa : Nat} {y : Int} (h : bs[pa]? = some y) : fJ (bs.drop pa) = .ok (y, bs.drop (pa + 1)) := by rw [drop_at h]; rfl
theorem acT {bs : List Int} {pa : Nat} (h : bs.length ≤ pa) : fJ (bs.drop pa) = .error 20 := by rw [List.drop_eq_nil_of_le h]; rfl
theorem acU {l r r2 : List Int} {a b : Int} (h : fJ l = .ok (a, r)) (h2 : fJ r = .ok (b, r2)) : kP l = .ok (uH a b, r2) := by rw [dU h, dU h2]; rfl
theorem acW {l : List Int} {e : Int} (h : fJ l = .error e) : kP l = .error e := by obtain ⟨rfl, rfl⟩ := qJ h; rfl
theorem acV {l r : List Int} {a e : Int} (h : fJ l = .ok (a, r)) (h2 : fJ r = .error e) : kP l = .error e := by obtain ⟨h3, rfl⟩ := qJ h2; rw [dU h, h3]; rfl
theorem aeL {l r : List Int} {a : Int} (h : fJ l = .ok (a, r)) (h2 : ¬ a < 64) : sG l = .ok (a, r) := by rw [dU h]; unfold sG; dsimp only; rw [if_neg h2]
theorem aeM {l : List Int} {e : Int} (h : fJ l = .error e) : sG l = .error e := by obtain ⟨rfl, rfl⟩ := qJ h; rfl
theorem aeK {l r : List Int} {a : Int} (h : fJ l = .ok (a, r)) (h2 : a < 64) : sG l = .error 31 := by rw [dU h]; unfold sG; dsimp only; rw [if_pos h2]
def CV (l : List Pr) (x : Except Int (List Pr × List Int)) : Except Int (List Pr × List Int) := match x with | .error e => .error e | .ok (ps, r) => .ok (l ++ ps, r)
theorem aeN (x : Except Int (List Pr × List Int)) : x = CV [] x := by unfold CV; split <;> rfl
theorem acX {a : Except Int (List Pr × List Int)} {l : List Pr} {k t v : Int} {m n : Nat} {c0 c1 c2 : List Int} (h : a = CV l (jQ k (m - n) c0)) (hn : n < m) (h1 : fJ c0 = .ok (t, c1)) (h2 : fJ c1 = .ok (v, c2)) (hc : oh k ⟨t, v⟩ = 0) : a = CV (l ++ [⟨t, v⟩]) (jQ k (m - (n + 1)) c2) := by
 rw [h, show m - n = (m - (n + 1)) + 1 by omega, dU h1, dU h2, jQ, if_neg (fun h => h hc)]
 unfold CV
 cases jQ k (m - (n + 1)) c2 with
 | error e => rfl
 | ok x => simp
theorem aic {a : Except Int (List Pr × List Int)} {l : List Pr} {k e : Int} {m n : Nat} {c0 : List Int} (h : a = CV l (jQ k (m - n) c0)) (hn : n < m) (h1 : fJ c0 = .error e) : a = .error e := by
 obtain ⟨rfl, rfl⟩ := qJ h1
 rw [h, show m - n = (m - (n + 1)) + 1 by omega]; rfl
theorem aib {a : Except Int (List Pr × List Int)} {l : List Pr} {k t e : Int} {m n : Nat} {c0 c1 : List Int} (h : a = CV l (jQ k (m - n) c0)) (hn : n < m) (h1 : fJ c0 = .ok (t, c1)) (h2 : fJ c1 = .error e) : a = .error e := by
 obtain ⟨h3, rfl⟩ := qJ h2
 rw [h, show m - n = (m - (n + 1)) + 1 by omega, dU h1, h3]; rfl
theorem aia {a : Except Int (List Pr × List Int)} {l : List Pr} {k t v : Int} {m n : Nat} {c0 c1 c2 : List Int} (h : a = CV l (jQ k (m - n) c0)) (hn : n < m) (h1 : fJ c0 = .ok (t, c1)) (h2 : fJ c1 = .ok (v, c2)) (hc : ¬ oh k ⟨t, v⟩ = 0) : a = .error (oh k ⟨t, v⟩) := by
 rw [h, show m - n = (m - (n + 1)) + 1 by omega, dU h1, dU h2, jQ, if_pos hc]; rfl
theorem aeO {a : Except Int (List Pr × List Int)} {l : List Pr} {k : Int} {m : Nat} {c0 : List Int} (h : a = CV l (jQ k (m - m) c0)) : a = .ok (l, c0) := by
 rw [h, Nat.sub_self]; unfold jQ CV; simp
theorem aig {l : List Int} {e : Int} (h : kP l = .error e) : sV l = .error e := by unfold sV; rw [h]
theorem aif {l r : List Int} {p e : Int} (h : kP l = .ok (p, r)) (h2 : fJ r = .error e) : sV l = .error e := by unfold sV; rw [h]; dsimp only; rw [h2]
theorem acY {l r r1 : List Int} {p c : Int} (h : kP l = .ok (p, r)) (h2 : fJ r = .ok (c, r1)) (hc : c = 8) : sV l = match sG r1 with | .error e => .error e | .ok (d, r2) => .ok ((p, d, true), r2) := by unfold sV; rw [h]; dsimp only; rw [h2]; dsimp only; rw [if_pos hc]
theorem akA {l r r1 : List Int} {p c : Int} (h : kP l = .ok (p, r)) (h2 : fJ r = .ok (c, r1)) (hc : ¬ c = 8) (hp : fG c = true) : sV l = .ok ((p, c, false), r1) := by unfold sV; rw [h]; dsimp only; rw [h2]; dsimp only; rw [if_neg hc, if_pos hp]
theorem aie {l r r1 : List Int} {p c : Int} (h : kP l = .ok (p, r)) (h2 : fJ r = .ok (c, r1)) (hc : ¬ c = 8) (hp : fG c = false) : sV l = .error 31 := by unfold sV; rw [h]; dsimp only; rw [h2]; dsimp only; rw [if_neg hc, if_neg (by rw [hp]; decide)]
theorem aaR {bs : List Int} {p0 p1 : Nat} (h : p0 ≤ p1) (hp : p1 ≤ bs.length) (hall : ∀ (j : Nat) x, p0 ≤ j → j < p1 → bs[j]? = some x → fG x = true) (hend : ∀ x, bs[p1]? = some x → fG x = false) :
  (bs.drop p0).takeWhile fG = (bs.drop p0).take (p1 - p0) ∧ (bs.drop p0).dropWhile fG = bs.drop p1 := by
 have hn : ∃ n, p1 = p0 + n := ⟨p1 - p0, by omega⟩
 obtain ⟨n, rfl⟩ := hn
 clear h
 induction n generalizing p0 with
 | zero =>
  rw [show p0 + 0 - p0 = 0 by omega, List.take_zero, Nat.add_zero]
  cases hb : bs[p0]? with
  | none => rw [List.drop_eq_nil_of_le (List.getElem?_eq_none_iff.1 hb)]; exact ⟨rfl, rfl⟩
  | some x =>
   have := hend x hb
   rw [drop_at hb, List.takeWhile_cons, List.dropWhile_cons, this]; exact ⟨rfl, rfl⟩
 | succ n ih =>
  have hlt : p0 < bs.length := by omega
  have hb := List.getElem?_eq_getElem hlt
  have hpl := hall p0 _ (Nat.le_refl _) (by omega) hb
  have := ih (p0 := p0 + 1) (by omega) (fun j x h1 h2 => hall j x (by omega) (by omega)) (fun x hx => hend x (by rw [show p0 + (n + 1) = p0 + 1 + n by omega]; exact hx))
  rw [drop_at hb, List.takeWhile_cons, List.dropWhile_cons, hpl, if_pos rfl, if_pos rfl, this.1, this.2, show p0 + (n + 1) - p0 = (p0 + 1 + n - (p0 + 1)) + 1 by omega, List.take_succ_cons, show p0 + (n + 1) = p0 + 1 + n by omega]
  exact ⟨rfl, rfl⟩
theorem akB {bs : List Int} {p0 p1 : Nat} {y : Int} (hy : bs[p0]? = some y) (hp : fG y = true) (h : p0 ≤ p1) (hl : p1 ≤ bs.length) (hall : ∀ (j : Nat) x, p0 ≤ j → j < p1 → bs[j]? = some x → fG x = true) (hend : ∀ x, bs[p1]? = some x → fG x = false) :
  jD (bs.drop p0) = .ok (⟨0, 0, 0, false, [], (bs.drop p0).take (p1 - p0)⟩, bs.drop p1) := by
 obtain ⟨h1, h2⟩ := aaR h hl hall hend
 rw [← h1, ← h2, drop_at hy, jD, if_pos hp]
section
variable {l r r1 r2 : List Int} {c : Int}
theorem akD {p : Int} (h : fJ l = .ok (c, r)) (hp : fG c = false) (hc : c = 17 ∨ c = 18) (h1 : kP r = .ok (p, r1)) : jD l = .ok (⟨c, p, 0, false, [], []⟩, r1) := by
 rw [dU h, jD, if_neg (by rw [hp]; decide), if_pos hc, h1]
theorem aii {e : Int} (h : fJ l = .ok (c, r)) (hp : fG c = false) (hc : c = 17 ∨ c = 18) (h1 : kP r = .error e) : jD l = .error e := by
 rw [dU h, jD, if_neg (by rw [hp]; decide), if_pos hc, h1]
theorem akE {y : Int} (h : fJ l = .ok (c, r)) (hp : fG c = false) (hc : c = 29) (h1 : fJ r = .ok (y, r1)) : jD l = .ok (⟨c, 0, y % 64, false, [], []⟩, r1) := by
 rw [dU h, jD, if_neg (by rw [hp]; decide), if_neg (by omega), if_pos hc, h1]
theorem aij {e : Int} (h : fJ l = .ok (c, r)) (hp : fG c = false) (hc : c = 29) (h1 : fJ r = .error e) : jD l = .error e := by
 rw [dU h, jD, if_neg (by rw [hp]; decide), if_neg (by omega), if_pos hc, h1]
theorem akF {n : Int} {ps : List Pr} (h : fJ l = .ok (c, r)) (hp : fG c = false) (hc : c = 41 ∨ c = 44) (h1 : fJ r = .ok (n, r1)) (h2 : jQ c n.toNat r1 = .ok (ps, r2)) : jD l = .ok (⟨c, 0, 0, false, ps, []⟩, r2) := by
 rw [dU h, jD, if_neg (by rw [hp]; decide), if_neg (by omega), if_neg (by omega), if_pos hc, h1]; dsimp only; rw [h2]
theorem aeR {e : Int} (h : fJ l = .ok (c, r)) (hp : fG c = false) (hc : c = 41 ∨ c = 44) (h1 : fJ r = .error e) : jD l = .error e := by
 rw [dU h, jD, if_neg (by rw [hp]; decide), if_neg (by omega), if_neg (by omega), if_pos hc, h1]
theorem aeQ {n e : Int} (h : fJ l = .ok (c, r)) (hp : fG c = false) (hc : c = 41 ∨ c = 44) (h1 : fJ r = .ok (n, r1)) (h2 : jQ c n.toNat r1 = .error e) : jD l = .error e := by
 rw [dU h, jD, if_neg (by rw [hp]; decide), if_neg (by omega), if_neg (by omega), if_pos hc, h1]; dsimp only; rw [h2]
theorem akG {ps : List Pr} (h : fJ l = .ok (c, r)) (hp : fG c = false) (hc : c = 40) (h2 : jQ c 1 r = .ok (ps, r2)) : jD l = .ok (⟨c, 0, 0, false, ps, []⟩, r2) := by
 rw [dU h, jD, if_neg (by rw [hp]; decide), if_neg (by omega), if_neg (by omega), if_neg (by omega), if_pos hc, h2]
theorem aik {e : Int} (h : fJ l = .ok (c, r)) (hp : fG c = false) (hc : c = 40) (h2 : jQ c 1 r = .error e) : jD l = .error e := by
 rw [dU h, jD, if_neg (by rw [hp]; decide), if_neg (by omega), if_neg (by omega), if_neg (by omega), if_pos hc, h2]
theorem akH (h : fJ l = .ok (c, r)) (hp : fG c = false) (hc : c = 19 ∨ c = 5) : jD l = .ok (⟨c, 0, 0, false, [], []⟩, r) := by
 rw [dU h, jD, if_neg (by rw [hp]; decide), if_neg (by omega), if_neg (by omega), if_neg (by omega), if_neg (by omega), if_pos hc]
theorem akI {p d : Int} {g : Bool} (h : fJ l = .ok (c, r)) (hp : fG c = false) (hc : c = 60) (h1 : sV r = .ok ((p, d, g), r1)) : jD l = .ok (⟨c, p, d, g, [], []⟩, r1) := by
 rw [dU h, jD, if_neg (by rw [hp]; decide), if_neg (by omega), if_neg (by omega), if_neg (by omega), if_neg (by omega), if_neg (by omega), if_pos hc, h1]
theorem ail {e : Int} (h : fJ l = .ok (c, r)) (hp : fG c = false) (hc : c = 60) (h1 : sV r = .error e) : jD l = .error e := by
 rw [dU h, jD, if_neg (by rw [hp]; decide), if_neg (by omega), if_neg (by omega), if_neg (by omega), if_neg (by omega), if_neg (by omega), if_pos hc, h1]
theorem akJ {d : Int} (h : fJ l = .ok (c, r)) (hp : fG c = false) (hc : c = 8) (h1 : sG r = .ok (d, r1)) : jD l = .ok (⟨c, 0, d, false, [], []⟩, r1) := by
 rw [dU h, jD, if_neg (by rw [hp]; decide), if_neg (by omega), if_neg (by omega), if_neg (by omega), if_neg (by omega), if_neg (by omega), if_neg (by omega), if_pos hc, h1]
theorem aim {e : Int} (h : fJ l = .ok (c, r)) (hp : fG c = false) (hc : c = 8) (h1 : sG r = .error e) : jD l = .error e := by
 rw [dU h, jD, if_neg (by rw [hp]; decide), if_neg (by omega), if_neg (by omega), if_neg (by omega), if_neg (by omega), if_neg (by omega), if_neg (by omega), if_pos hc, h1]
theorem ain (h : fJ l = .ok (c, r)) (hp : fG c = false) (hc : ¬ (c = 17 ∨ c = 18 ∨ c = 29 ∨ c = 41 ∨ c = 44 ∨ c = 40 ∨ c = 19 ∨ c = 5 ∨ c = 60 ∨ c = 8)) : jD l = .error 31 := by
 rw [dU h, jD, if_neg (by rw [hp]; decide), if_neg (by omega), if_neg (by omega), if_neg (by omega), if_neg (by omega), if_neg (by omega), if_neg (by omega), if_neg (by omega)]
end
end Gs
end
