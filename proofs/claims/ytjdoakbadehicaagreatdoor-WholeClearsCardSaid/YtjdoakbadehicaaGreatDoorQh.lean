/- Part of a proof. No condition but those that its theorems state. -/
import Derived.Test.YtjdoakbadehicaaGreatDoorQc
import Derived.Test.YtjdoakbadehicaaGreatDoorQf
import Derived.Test.YtjdoakbadehicaaGreatDoorQd
import Derived.Test.YtjdoakbadehicaaGreatDoorProg
import Derived.Test.YtjdoakbadehicaaGreatDoorQa
import Derived.KernelRfl
import Derived.WalkKit
import Derived.Lib.Builder
import Derived.Laws.Externs
import Derived.Lib.AppendStr
import Derived.Shelf.RegionOpenPlain
import Derived.Test.YtjdoakbadehicaaGreatDoorQg
set_option linter.unusedVariables false
set_option linter.unusedSimpArgs false
section
namespace Go.Proofs.YtjdoakbadehicaaGreatDoor
open Go Go.Sh
set_option maxRecDepth 100000
theorem aa6 {b : Int} {w : World} :
    oX 10 #[Z.u b] w fun e w' => e = .returned (.bool (decide (b = 109 ∨ b = 108 ∨ b = 110 ∨ b = 107))) ∧ aA no w w' := by
 refine F10.calls ?_
 unfold F10
 have hF : aA no w w := Fr.refl _ _ _
 refine aB (CW) (fun w1 U1 => ?_)
 refine az (neS _ _ _ _) (fun h2 => ?_) (fun h2 => ?_)
 refine aX (aX ?_)
 refine au (jQ _ _ _ _ _) ?_
 refine aU ?_
 replace hF := hF.go0 U1
 exact ⟨(congrArg (fun q => Ending.returned (Value.bool q)) (Gs.ahS (by assumption))), hF⟩
 refine aQ (aQ (aT ?_))
 replace hF := hF.go0 U1
 exact ⟨(congrArg (fun q => Ending.returned (Value.bool q)) (Gs.ahT (by assumption))), hF⟩
theorem Ou {c : Gs.Cell} {w : World} :
    oX 142 #[.agg (Gs.cv c).toArray] w fun e w' => e = .returned (.bool (Gs.qh c)) ∧ aA no w w' := by
 refine Zy.calls ?_
 unfold Zy
 have hF : aA no w w := Fr.refl _ _ _
 refine Z.x ((Gs.cv c).toArray) (fun b1 w1 e1 ah _ U1 => ?_)
 refine Z.f 0 ?_
 refine Z.l ah ?_
 refine az (cu _ _ _ _ _) (fun h2 => ?_) (fun h2 => ?_)
 refine aX ?_
 refine Z.f 1 ?_
 refine aX ?_
 refine Z.l ah ?_
 refine aX ?_
 refine au (AP _) ?_
 refine aU ?_
 replace hF := hF.go0 U1
 exact ⟨(congrArg (fun q => Ending.returned (Value.bool q)) (Gs.ahQ (by assumption))), hF⟩
 refine aQ (aQ (aQ (aT ?_)))
 replace hF := hF.go0 U1
 exact ⟨(congrArg (fun q => Ending.returned (Value.bool q)) (Gs.ahR (by assumption))), hF⟩
theorem Ov {c : Gs.Cell} {w : World} :
    oX 69 #[.agg (Gs.cv c).toArray] w fun e w' => ∃ v, e = .returned v ∧ Own w.heap.size w' 5 1 v (vals .u8 (Gs.rG c)) ∧ aA no w w' := by
 refine F69.calls ?_
 unfold F69
 have hF : aA no w w := Fr.refl _ _ _
 refine Z.x ((Gs.cv c).toArray) (fun b1 w1 e1 ah _ U1 => ?_)
 have bZ : w.heap.size ≤ b1 := by have := hF.size; omega
 refine Z.f 1 ?_
 refine pW (kT (by kernel_rfl) ah (by rfl)) (fun h2 => ?_) (fun h2 => ?_)
 refine aX ?_
 refine Z.f 0 ?_
 refine aX ?_
 refine Z.l ah ?_
 refine aX ?_
 refine az (lss _ _ _ _) (fun h3 => ?_) (fun h3 => ?_)
 refine aU (aK ?_)
 refine dM (e := 5) (m := 1) (z := #[Z.u 0]) (by kernel_rfl) (by kernel_rfl) (by rfl) (by decide) (by (simp [eH, splice, fU, Value.cells, Gs.cv, Gs.fv, Gs.ie]; rfl)) (fun b4 w4 e4 ed _ U4 => ?_)
 have o8 : b1 ≠ b4 := by have := ak ah; omega
 replace hF := hF.go0 U1
 have mY : w.heap.size ≤ b4 := by have := hF.size; omega
 replace hF := hF.go0 U4
 exact ⟨_, rfl, by rw [Gs.aer (by assumption) (by assumption)]; exact Own.of_block (n := 2) (xs := [_, _]) (by assumption) (by omega) rfl (by decide), hF⟩
 refine aU (aF ?_)
 refine Z.f 1 ?_
 refine pW (kT (by kernel_rfl) ah (by rfl)) (fun h6 => ?_) (fun h6 => ?_)
 refine aK ?_
 refine Z.f 0 ?_
 refine Z.l ah ?_
 refine dM (e := 5) (m := 1) (z := #[Z.u 0]) (by kernel_rfl) (by kernel_rfl) (by rfl) (by decide) (by (simp [eH, splice, fU, Value.cells, Gs.cv, Gs.fv, Gs.ie]; rfl)) (fun b7 w7 e7 lC _ U7 => ?_)
 have FU : b1 ≠ b7 := by have := ak ah; omega
 replace hF := hF.go0 U1
 have uZ : w.heap.size ≤ b7 := by have := hF.size; omega
 replace hF := hF.go0 U7
 exact ⟨_, rfl, by rw [Gs.aes (by assumption) (by assumption)]; exact Own.of_block (n := 2) (xs := [_, _]) (by assumption) (by omega) rfl (by decide), hF⟩
 refine aF ?_
 refine Z.f 0 ?_
 refine Z.l ah ?_
 refine dU (rf) (fun w9 U9 h9 => ?_) (fun w9 U9 h9 => ?_)
 refine au (kz) ?_
 refine aF ?_
 refine Z.f 0 ?_
 replace ah := U9.af ah
 refine Z.l ah ?_
 refine dM (e := 5) (m := 1) (z := #[Z.u 0]) (by kernel_rfl) (by kernel_rfl) (by rfl) (by decide) (by (simp [eH, splice, fU, Value.cells, Gs.cv, Gs.fv, Gs.ie]; rfl)) (fun b10 w10 e10 Np _ aW => ?_)
 have IR : b1 ≠ b10 := by have := ak ah; omega
 replace hF := (hF.go0 U1).go0 U9
 have Tj : w.heap.size ≤ b10 := by have := hF.size; omega
 replace hF := hF.go0 aW
 exact ⟨_, rfl, by rw [Gs.UO (by assumption) (by simp_all)]; exact Own.of_block (n := 1) (xs := [_]) (by assumption) (by omega) rfl (by decide), hF⟩
 refine au (nP) ?_
 refine aK ?_
 refine dM (e := 5) (m := 1) (z := #[Z.u 0]) (by kernel_rfl) (by kernel_rfl) (by rfl) (by decide) (by (simp [eH, splice, fU, Value.cells, Gs.cv, Gs.fv, Gs.ie]; rfl)) (fun b12 w12 e12 bV _ df => ?_)
 replace ah := U9.af ah
 have ac5 : b1 ≠ b12 := by have := ak ah; omega
 replace hF := (hF.go0 U1).go0 U9
 have tK : w.heap.size ≤ b12 := by have := hF.size; omega
 replace hF := hF.go0 df
 exact ⟨_, rfl, by rw [Gs.UN (by assumption) (by simp_all)]; exact Own.of_block (n := 1) (xs := [_]) (by assumption) (by omega) rfl (by decide), hF⟩
 refine aQ (aQ (aQ (aT (aF ?_))))
 refine Z.f 1 ?_
 refine pW (kT (by kernel_rfl) ah (by rfl)) (fun h14 => ?_) (fun h14 => ?_)
 refine aK ?_
 refine Z.f 0 ?_
 refine Z.l ah ?_
 refine dM (e := 5) (m := 1) (z := #[Z.u 0]) (by kernel_rfl) (by kernel_rfl) (by rfl) (by decide) (by (simp [eH, splice, fU, Value.cells, Gs.cv, Gs.fv, Gs.ie]; rfl)) (fun b15 tX e15 iy _ bU => ?_)
 have anK : b1 ≠ b15 := by have := ak ah; omega
 replace hF := hF.go0 U1
 have xC : w.heap.size ≤ b15 := by have := hF.size; omega
 replace hF := hF.go0 bU
 exact absurd (Eq.trans (Eq.symm (show c.ge = true by assumption)) (show c.ge = false by assumption)) (by decide)
 refine aF ?_
 refine Z.f 0 ?_
 refine Z.l ah ?_
 refine dU (rf) (fun uY dh h17 => ?_) (fun uY dh h17 => ?_)
 refine au (kz) ?_
 refine aF ?_
 refine Z.f 0 ?_
 replace ah := dh.af ah
 refine Z.l ah ?_
 refine dM (e := 5) (m := 1) (z := #[Z.u 0]) (by kernel_rfl) (by kernel_rfl) (by rfl) (by decide) (by (simp [eH, splice, fU, Value.cells, Gs.cv, Gs.fv, Gs.ie]; rfl)) (fun b18 xh e18 Y6 _ dO => ?_)
 have abP : b1 ≠ b18 := by have := ak ah; omega
 replace hF := (hF.go0 U1).go0 dh
 have ajr : w.heap.size ≤ b18 := by have := hF.size; omega
 replace hF := hF.go0 dO
 exact ⟨_, rfl, by rw [Gs.UO (by assumption) (by simp_all)]; exact Own.of_block (n := 1) (xs := [_]) (by assumption) (by omega) rfl (by decide), hF⟩
 refine au (nP) ?_
 refine aK ?_
 refine dM (e := 5) (m := 1) (z := #[Z.u 0]) (by kernel_rfl) (by kernel_rfl) (by rfl) (by decide) (by (simp [eH, splice, fU, Value.cells, Gs.cv, Gs.fv, Gs.ie]; rfl)) (fun b20 wY e20 h_b20 _ dR => ?_)
 replace ah := dh.af ah
 have anL : b1 ≠ b20 := by have := ak ah; omega
 replace hF := (hF.go0 U1).go0 dh
 have ge_b20 : w.heap.size ≤ b20 := by have := hF.size; omega
 replace hF := hF.go0 dR
 exact ⟨_, rfl, by rw [Gs.UN (by assumption) (by simp_all)]; exact Own.of_block (n := 1) (xs := [_]) (by assumption) (by omega) rfl (by decide), hF⟩
theorem Ox {r c cur : Int} {A : Option Addr} {n cp bp B0 : Nat} {cs : List Gs.Cell} {w : World} (ag : Z.h w bp #[Z.i r, Z.i c, .slice A n cp, Z.i cur] 91) (ae : Own B0 w 37 5 (.slice A n cp) (rows Gs.cv cs)) (hn : n = cs.length) {i : Int} :
    oX 67 #[Z.p bp, Z.i i] w fun e w' => ∃ v, e = .returned v ∧ ∃ A' c', v = .slice A' 2 c' ∧ Rd w' A' (vals .u8 [(Gs.pR i n).1, (Gs.pR i n).2.1]) ∧ vG A' (vals .u8 [(Gs.pR i n).1, (Gs.pR i n).2.1]) w.heap.size ∧ aA no w w' := by
 refine F67.calls ?_
 unfold F67
 have hF : aA no w w := Fr.refl _ _ _
 refine aB (fK ag ae hn) (fun w1 U1 => ?_)
 refine aB (RP (p := i) (n := n)) (fun w2 U2 => ?_)
 refine Z.e ?_
 refine Z.e ?_
 refine Z.n (#[Z.u 0, Z.u 0]) (fun b3 w3 e3 bF _ U3 => ?_)
 replace hF := (hF.go0 U1).go0 U2
 have jD : w.heap.size ≤ b3 := by have := hF.size; omega
 refine Z.t 2 (#[Z.u (Gs.pR i n).1, Z.u (Gs.pR i n).2.1]) (by (simp [Value.cells, Value.oneCell', Gs.cv, Gs.fv, Gs.ie]; done)) bF (fun w4 bF _ U4 => ?_)
 refine au (aeu (n := 2) (m := 1) (by kernel_rfl)) ?_
 replace hF := (hF.go0 U3).go1 U4 jD
 exact ⟨_, rfl, _, _, rfl, Rd.nG (xs := vals .u8 [(Gs.pR i n).1, (Gs.pR i n).2.1]) bF, .inr (fun k ⟨a, ea, ek⟩ => by cases ea; subst ek; show _ ≤ _; omega), hF⟩
theorem aa7 {r c cur : Int} {A : Option Addr} {n cp bp B0 : Nat} {cs : List Gs.Cell} {w : World} (ag : Z.h w bp #[Z.i r, Z.i c, .slice A n cp, Z.i cur] 91) (ae : Own B0 w 37 5 (.slice A n cp) (rows Gs.cv cs)) (hn : n = cs.length) (hb : n ≤ 4096)  :
    oX 99 #[Z.p bp] w fun e w' => ∃ v, e = .returned v ∧ Own w.heap.size w' 5 1 v (vals .u8 (Gs.mi cs (Gs.ji cs))) ∧ aA no w w' := by
 refine F99.calls ?_
 unfold F99
 subst hn
 have wJ := ak ag
 have l7 := Own.lt ae
 have hF : aA no w w := Fr.refl _ _ _
 refine bP (fun g w' => ∃ (v3 : Value), (g 3 = v3) ∧ (Own w.heap.size w' 5 1 v3 (vals .u8 (Gs.mi cs (Gs.ji cs)))) ∧ (aA no w w')) (fun J1 hJ1 => ?_) (fun gJ1 jK hI => ?_)
 refine aB (fK ag ae rfl) (fun w1 U1 => ?_)
 refine eF (fun g w' => ∃ (k : Nat) (v3 : Value), (g 8 = Z.i (k : Int)) ∧ (k ≤ cs.length) ∧ (g 3 = v3) ∧ (Own w.heap.size w' 5 1 v3 (vals .u8 (Gs.mi cs ((Gs.ji cs).take k)))) ∧ (Z.h w' bp #[Z.i r, Z.i c, .slice A cs.length cp, Z.i cur] 91) ∧ (Own B0 w' 37 5 (.slice A cs.length cp) (rows Gs.cv cs)) ∧ (aA no w w')) (fun g w' => cs.length - (RowKit.intOf (g 8)).toNat) ?_ (fun g2 qI hI => ?_)
 replace ae := ae.ai U1
 replace ag := U1.af ag
 replace hF := hF.go0 U1
 exact ⟨0, _, (by rfl), Nat.zero_le _, rfl, (Own.nil _ _ _ _), ag, ae, hF⟩
 replace ae := ae.ai U1
 replace ag := U1.af ag
 replace hF := hF.go0 U1
 obtain ⟨k, v3, g8, hk, g3, bM, ag, ae, hF⟩ := hI
 rw [g8]
 rw [g3]
 have hfl := Gs.GH cs ((Gs.ji cs).take k)
 rw [List.length_take, Gs.zS] at hfl
 refine az (lss _ _ _ _) (fun h2 => ?_) (fun h2 => ?_)
 refine aK ?_
 refine bP (fun g w' => ∃ (v3 : Value), (g 3 = v3) ∧ (Own w.heap.size w' 5 1 v3 (vals .u8 (Gs.mi cs ((Gs.ji cs).take (k + 1))))) ∧ (Z.h w' bp #[Z.i r, Z.i c, .slice A cs.length cp, Z.i cur] 91) ∧ (Own B0 w' 37 5 (.slice A cs.length cp) (rows Gs.cv cs)) ∧ (aA no w w')) (fun J3 hJ3 => ?_) (fun gJ3 KN hI => ?_)
 refine aB (iw ag ae rfl (i := (k : Int))) (fun w3 U3 => ?_)
 refine Z.n ((Gs.cv Gs.zc).toArray) (fun b4 w4 e4 ed _ U4 => ?_)
 replace bM := bM.ai U3
 have Ha := bM.apart e4
 replace ag := U3.af ag
 have pY : bp ≠ b4 := by have := ak ag; omega
 replace ae := ae.ai U3
 have l9 := ae.apart e4
 replace hF := hF.go0 U3
 have mY : w.heap.size ≤ b4 := by have := hF.size; omega
 refine Z.t 5 ((Gs.cv (Gs.bK cs k)).toArray) (by (simp [Value.cells, Value.oneCell', Gs.cv, Gs.fv, Gs.ie]; done)) ed (fun w5 ed _ U5 => ?_)
 refine Z.b 5 ((Gs.cv (Gs.bK cs k)).toArray) ed ?_
 refine dU (Ou) (fun w6 U6 h6 => ?_) (fun w6 U6 h6 => ?_)
 refine au (kz) ?_
 refine aF ?_
 refine hJ3 _ _ ?_
 replace bM := ((bM.ai U4).aG U5 Ha).ai U6
 replace ae := ((ae.ai U4).aG U5 l9).ai U6
 replace ag := U6.af (U5.aj (U4.af ag) pY)
 replace hF := ((hF.go0 U4).go1 U5 mY).go0 U6
 exact ⟨_, (by exact g3), (by (rw [← Gs.ahU (by omega) (by assumption)]; exact bM)), ag, ae, hF⟩
 refine au (nP) ?_
 refine aK ?_
 replace ed := U6.af ed
 refine Z.b 5 ((Gs.cv (Gs.bK cs k)).toArray) ed ?_
 refine aN (Ov) (fun v7 w7 D7 => ?_)
 obtain ⟨BH, U7⟩ := D7
 obtain ⟨A19, c19, rfl, _⟩ := BH.bH
 replace bM := ((bM.ai U4).aG U5 Ha).ai U6
 have PX : ∀ k, aH _ k → ¬ aH _ k := fun k hk hs => by have := (Own.ge bM hk).2; have := (Own.ge BH hs).1; omega
 replace ag := U6.af (U5.aj (U4.af ag) pY)
 have aiE : ¬ aH _ bp := fun h => by have := (Own.ge BH h).1; have := ak ag; omega
 replace ae := ((ae.ai U4).aG U5 l9).ai U6
 have agN : ∀ k, aH _ k → ¬ aH _ k := fun k hk hs => by have := (Own.ge ae hk).2; have := (Own.ge BH hs).1; omega
 have aiF : ¬ aH _ b4 := fun h => by have := (Own.ge BH h).1; have := ak ed; omega
 replace hF := ((hF.go0 U4).go1 U5 mY).go0 U6
 replace BH := BH.mono (B' := w.heap.size) hF.size
 have hbl := Gs.Jk (Gs.bK cs k)
 replace bM := bM.ai U7
 replace hF := hF.go0 U7
 refine lw (e := 5) (size := 1) (bytes := 1) (by kernel_rfl) bM BH.yZ (by (simp [vals_length]; done)) vN (by simp only [vals_length, List.length_take, List.length_cons, List.length_nil, List.length_append, List.length_map, List.length_range]; omega) (by have := hF.size; omega) (fun v8 w8 N8 hA8 U8 => ?_)
 have fZ := bM
 have anM := Jf (S' := w7) (fun k hk hs => PX k hs hk) BH hA8
 replace ed := U7.af ed
 have nc8_b4 : ∀ k, aH v8 k → k ≠ b4 := fun k hk e => Or.elim (hA8 k hk) (fun h => Ha k h e) (fun h => by have := ak ed; omega)
 replace bM := N8
 replace ag := U7.af ag
 replace ag := U8.get ag (fun h => by (have := Own.ge fZ h; omega))
 replace ae := ae.ai U7
 replace ae := ae.dY U8 (fun k hk hs => by have := l7 k hk; have := (Own.ge fZ hs).1; omega)
 replace hF := hF.go U8 (fun i h hs => by (have := (Own.ge fZ hs).1; omega))
 clear fZ
 refine hJ3 _ _ ?_
 exact ⟨_, (by rfl), (by (rw [← Gs.ahV (by omega) (by assumption), ← zW]; exact bM)), ag, ae, hF⟩
 obtain ⟨v3, g3, bM, ag, ae, hF⟩ := hI
 refine au (dL _ (by omega)) ?_
 exact ⟨⟨k + 1, _, (by rfl), by omega, (by exact g3), bM, ag, ae, hF⟩, cnt_lt (by rfl) rfl (by omega)⟩
 refine aF ?_
 refine hJ1 _ _ ?_
 exact ⟨_, (by exact g3), (by rw [List.take_of_length_le (by rw [Gs.zS]; omega)] at bM; exact bM), hF⟩
 obtain ⟨v3, g3, bM, hF⟩ := hI
 rw [g3]
 exact ⟨_, rfl, bM, hF⟩
set_option maxHeartbeats 2000000 in
theorem WQ {r c cur : Int} {A : Option Addr} {n cp bp B0 : Nat} {cs : List Gs.Cell} {w : World} (ag : Z.h w bp #[Z.i r, Z.i c, .slice A n cp, Z.i cur] 91) (ae : Own B0 w 37 5 (.slice A n cp) (rows Gs.cv cs)) (hn : n = cs.length) (hN : Gs.aZ r c = n) (hb : n ≤ 4096) (hcw : Gs.jh cs)  :
    oX 98 #[Z.p bp] w fun e w' => ∃ v, e = .returned v ∧ Own w.heap.size w' 5 1 v (vals .u8 (Gs.wV cs (Gs.bW cs).length)) ∧ aA no w w' := by
 refine F98.calls ?_
 unfold F98
 subst hn
 have wJ := ak ag
 have l7 := Own.lt ae
 have hF : aA no w w := Fr.refl _ _ _
 refine Z.x _ (fun b1 w1 e1 ah _ U1 => ?_)
 have kD : bp ≠ b1 := by have := ak ag; omega
 have ik := ae.apart e1
 have bZ : w.heap.size ≤ b1 := by have := hF.size; omega
 refine Z.n (#[.slice none 0 0]) (fun b2 w2 e2 ax _ U2 => ?_)
 replace ag := U1.af ag
 have eY : bp ≠ b2 := by have := ak ag; omega
 replace ae := ae.ai U1
 have dH := ae.apart e2
 have lS : b1 ≠ b2 := by have := ak ah; omega
 replace hF := hF.go0 U1
 have eU : w.heap.size ≤ b2 := by have := hF.size; omega
 refine bP (fun g w' => ∃ (D2 : Nat) (v3 : Value), (g 1000000 = mkV D2 undef) ∧ (w.heap.size ≤ D2) ∧ (w'.heap[D2]? = some (.deferred (some []))) ∧ (Z.h w' b2 #[v3] 24) ∧ (Own w.heap.size w' 5 1 v3 (vals .u8 (Gs.wV cs (Gs.bW cs).length))) ∧ (aA no w w')) (fun J1 hJ1 => ?_) (fun gJ1 jK hI => ?_)
 replace ah := U2.af ah
 refine Z.l ah ?_
 replace ae := ae.ai U2
 replace ag := U2.af ag
 refine aN (xq ag ae rfl) (fun v3 w3 D3 => ?_)
 obtain ⟨b1_8, rfl, g1_8, dC, U3⟩ := D3
 have amz : bp ≠ b1_8 := by have := ak ag; omega
 have aiU : ∀ k, aH _ k → k ≠ b1_8 := fun k hk => by have := (Own.ge ae hk).2; omega
 have amA : b1 ≠ b1_8 := by have := ak ah; omega
 have Oy : b2 ≠ b1_8 := by have := ak ax; omega
 replace hF := hF.go0 U2
 have ge_b1_8 : w.heap.size ≤ b1_8 := by have := hF.size; omega
 refine um (by kernel_rfl) (fun w4 l2 D2 Rdy2 Bsy2 Dn2 y2 eD el bg bD lp1 lp2 lp3 sz4 U4 hY => ?_)
 have lp2_2 := lp2
 replace ag := U3.af ag
 have TY : bp ≠ D2 := by have := ak ag; omega
 have iF : bp ≠ l2 := by have := ak ag; omega
 replace ae := ae.ai U3
 have sG : ∀ k, aH _ k → k ≠ D2 := fun k hk => by have := (Own.ge ae hk).2; omega
 have eQ : ∀ k, aH _ k → k ≠ l2 := fun k hk => by have := (Own.ge ae hk).2; omega
 replace ah := U3.af ah
 have TZ : b1 ≠ D2 := by have := ak ah; omega
 have iK : b1 ≠ l2 := by have := ak ah; omega
 replace ax := U3.af ax
 have uq : b2 ≠ D2 := by have := ak ax; omega
 have gJ : b2 ≠ l2 := by have := ak ax; omega
 have amB : b1_8 ≠ D2 := by have := ak dC; omega
 have BI : b1_8 ≠ l2 := by have := ak dC; omega
 replace hF := hF.go0 U3
 have nN : w.heap.size ≤ D2 := by have := hF.size; omega
 have jJ : w.heap.size ≤ l2 := by have := hF.size; omega
 have fD : D2 ≠ l2 := by omega
 replace ae := ae.ai U4
 replace ag := U4.af ag
 replace ah := U4.af ah
 replace ax := U4.af ax
 replace dC := U4.af dC
 replace hF := hF.go0 U4
 refine Calls.mono (uF (b1 := b1_8) (csF := (fun _ => cs)) (J := (fun (k : Nat) (w' : World) => ∃ (v3 : Value), (Z.h w' b2 #[v3] 24) ∧ (Own w.heap.size w' 5 1 v3 (vals .u8 (Gs.wV cs k))) ∧ (Z.h w' b1 #[Z.p bp] 33) ∧ (Z.h w' bp #[Z.i r, Z.i c, .slice A cs.length cp, Z.i cur] 91) ∧ (Own B0 w' 37 5 (.slice A cs.length cp) (rows Gs.cv cs)) ∧ (Z.h w' b1_8 #[Z.p bp] 33) ∧ (w'.heap[D2]? = some (.deferred (some []))) ∧ (w'.heap[l2]? = some Rdy2) ∧ (aA no w w'))) (X := (fun _ => False)) (fun _ w' hJ => by obtain ⟨v3, ax, bM, ah, ag, ae, dC, bg, bD, hF⟩ := hJ; exact ⟨dC, ag, ae⟩) (fun _ w' w'' hJ U' => by obtain ⟨v3, ax, bM, ah, ag, ae, dC, bg, bD, hF⟩ := hJ; exact ⟨v3, U'.af ax, bM.ai U', U'.af ah, U'.af ag, ae.ai U', U'.af dC, U'.af bg, U'.af bD, hF.go0 U'⟩) (fun _ _ h _ => h.elim) (fun _ => rfl) (fun _ => hcw) (fun _ _ => rfl) hN hb ?_ ?_) ?_
 intro k qI xk hx hI
 obtain ⟨v3, ax, bM, ah, ag, ae, dC, bg, bD, hF⟩ := hI
 have hk := (List.getElem?_eq_some_iff.1 hx).1
 have hsl := Gs.uG cs
 have hol := Gs.UQ hb k
 have hxm1 := Gs.qm.1 (List.mem_of_getElem? hx)
 have hpl := Gs.DL cs.length (Gs.kP cs xk)
 refine hY [.agg (Gs.fv (Gs.kP cs xk)).toArray] _ _ rfl bD ?_
 simp only [List.getD_cons_zero, List.getD_cons_succ]
 refine Z.n ((Gs.fv Gs.zf).toArray) (fun b5 w5 e5 cO _ U5 => ?_)
 have nz : b2 ≠ b5 := by have := ak ax; omega
 have BJ := bM.apart e5
 have gU : b1 ≠ b5 := by have := ak ah; omega
 have kC : bp ≠ b5 := by have := ak ag; omega
 have jF := ae.apart e5
 have aa8 : b1_8 ≠ b5 := by have := ak dC; omega
 have CQ : D2 ≠ b5 := by have := ak bg; omega
 have CS : l2 ≠ b5 := by have := ak bD; omega
 have iG : w.heap.size ≤ b5 := by have := hF.size; omega
 refine Z.t 3 ((Gs.fv (Gs.kP cs xk)).toArray) (by (simp [Value.cells, Value.oneCell', Gs.cv, Gs.fv, Gs.ie]; done)) cO (fun w6 cO _ U6 => ?_)
 replace bD := U6.aj (U5.af bD) CS
 refine xn bD (fun w7 bD _ U7 => ?_)
 replace bM := (bM.ai U5).aG U6 BJ
 replace ae := (ae.ai U5).aG U6 jF
 replace ax := U6.aj (U5.af ax) nz
 replace ah := U6.aj (U5.af ah) gU
 replace ag := U6.aj (U5.af ag) kC
 replace dC := U6.aj (U5.af dC) aa8
 replace bg := U6.aj (U5.af bg) CQ
 replace hF := (hF.go0 U5).go1 U6 iG
 replace bM := bM.aG U7 (Own.iZ bM (by assumption) (by assumption))
 refine Z.f 2 ?_
 replace cO := U7.aj cO (Ne.symm CS)
 refine Z.l cO ?_
 refine dU (DR (Gs.Ud hcw xk)) (fun w8 U8 h8 => ?_) (fun w8 U8 h8 => ?_)
 simp only [Z.d, Z.c] at h8
 refine au (kz) ?_
 refine aF ?_
 replace ax := U8.af (U7.aj ax gJ)
 have gB_h_b2 := ak ax
 replace bM := bM.ai U8
 have gB_own3 := Own.lt bM
 replace ah := U8.af (U7.aj ah iK)
 have gB_h_b1 := ak ah
 replace ag := U8.af (U7.aj ag iF)
 have gB_h_bp := ak ag
 replace ae := (ae.aG U7 eQ).ai U8
 have gB_own_p := Own.lt ae
 replace dC := U8.af (U7.aj dC BI)
 have gB_h_b1_8 := ak dC
 replace bg := U8.af (U7.aj bg fD)
 have gB_h_D2 := ak bg
 replace bD := U8.af bD
 have gB_h_l2 := ak bD
 replace cO := U8.af cO
 have gB_h_b5 := ak cO
 have oG_own3 := bM
 have gN_h_b2 : ¬ aH (v3) b2 := (fun h => Own.aS bM ax (by decide) _ h rfl)
 have gN_h_b1 : ¬ aH (v3) b1 := (fun h => Own.aS bM ah (by decide) _ h rfl)
 have gN_h_bp : ¬ aH (v3) bp := (fun h => Own.aS bM ag (by decide) _ h rfl)
 have gN_h_b1_8 : ¬ aH (v3) b1_8 := (fun h => Own.aS bM dC (by decide) _ h rfl)
 have gN_h_D2 : ¬ aH (v3) D2 := (fun h => Own.lq bM bg _ h rfl)
 replace hF := (hF.go1 U7 jJ).go0 U8
 have gN_h_l2 : ¬ aH (v3) l2 := (fun h => Own.iZ bM bD (by assumption) _ h rfl)
 have gN_h_b5 : ¬ aH (v3) b5 := (fun h => BJ _ h rfl)
 refine dK (S := fun k => aH (v3) k ∨ w8.heap.size ≤ k) (fun w9 U9 => ?_)
 have zz9 := U9.size
 replace ax := U9.af ax
 refine bI (fun w' hw' => by have ax := hw'.get ax (fun hs => Or.elim (show aH _ _ ∨ _ ≤ _ from hs) gN_h_b2 (fun h => by have := gB_h_b2; omega)); exact (kT (by kernel_rfl) ax (by rfl))) ?_
 replace ah := U9.af ah
 refine bI (fun w' hw' => by have ah := hw'.get ah (fun hs => Or.elim (show aH _ _ ∨ _ ≤ _ from hs) gN_h_b1 (fun h => by have := gB_h_b1; omega)); exact (kT (by kernel_rfl) ah (by rfl))) ?_
 refine bI (fun w' hw' => by have ah := hw'.get ah (fun hs => Or.elim (show aH _ _ ∨ _ ≤ _ from hs) gN_h_b1 (fun h => by have := gB_h_b1; omega)); exact (kT (by kernel_rfl) ah (by rfl))) ?_
 refine Z.g 0 ?_
 replace cO := U9.af cO
 refine bI (fun w' hw' => by have cO := hw'.get cO (fun hs => Or.elim (show aH _ _ ∨ _ ≤ _ from hs) gN_h_b5 (fun h => by have := gB_h_b5; omega)); exact (kT (by kernel_rfl) cO (by rfl))) ?_
 refine aI (fun w10 aW => ?_)
 have zz10 := aW.size
 refine jo ?_
 refine dM (e := 5) (m := 1) (z := #[Z.u 0]) (by kernel_rfl) (by kernel_rfl) (by rfl) (by decide) (by (simp [eH, splice, fU, Value.cells, Gs.cv, Gs.fv, Gs.ie]; rfl)) (fun b11 nT e11 jT _ bJ => ?_)
 replace ax := aW.af ax
 have ac6 : b2 ≠ b11 := by have := ak ax; omega
 replace bM := (bM.ai U9).ai aW
 have KZ := bM.apart e11
 replace ah := aW.af ah
 have IL : b1 ≠ b11 := by have := ak ah; omega
 replace ag := aW.af (U9.af ag)
 have anN : bp ≠ b11 := by have := ak ag; omega
 replace ae := (ae.ai U9).ai aW
 have akT := ae.apart e11
 replace dC := aW.af (U9.af dC)
 have alW : b1_8 ≠ b11 := by have := ak dC; omega
 replace bg := aW.af (U9.af bg)
 have anO : D2 ≠ b11 := by have := ak bg; omega
 replace bD := aW.af (U9.af bD)
 have anP : l2 ≠ b11 := by have := ak bD; omega
 replace cO := aW.af cO
 have anQ : b5 ≠ b11 := by have := ak cO; omega
 replace hF := (hF.go0 U9).go0 aW
 have SY : w.heap.size ≤ b11 := by have := hF.size; omega
 have zz11 := bJ.size
 refine ⟨bJ.any, ?_⟩
 refine aI (fun w12 df => ?_)
 have zz12 := df.size
 refine jo ?_
 replace bM := (bM.ai bJ).ai df
 replace hF := (hF.go0 bJ).go0 df
 replace jT := df.af jT
 refine lw (e := 5) (size := 1) (bytes := 1) (by kernel_rfl) bM (Rd.nG jT) rfl (by (simp [Value.oneCell']; done)) (by simp only [vals_length, List.length_take, List.length_cons, List.length_nil, List.length_append, List.length_map, List.length_range]; omega) (by have := hF.size; omega) (fun v13 uX N13 hA13 dE => ?_)
 have fZ := bM
 replace cO := df.af (bJ.af cO)
 have X5 : ∀ k, aH v13 k → k ≠ b5 := fun k hk e => Or.elim (hA13 k hk) (fun h => BJ k h e) (fun h => by have := ak cO; omega)
 have Vy : ∀ k, aH v13 k → k ≠ b11 := fun k hk e => Or.elim (hA13 k hk) (fun h => KZ k h e) (fun h => by have := ak jT; omega)
 replace ax := df.af (bJ.af ax)
 replace ax := dE.get ax (fun h => Own.aS fZ ax (by decide) _ h rfl)
 replace bM := N13
 replace ah := df.af (bJ.af ah)
 replace ah := dE.get ah (fun h => Own.aS fZ ah (by decide) _ h rfl)
 replace ag := df.af (bJ.af ag)
 replace ag := dE.get ag (fun h => by (have := Own.ge fZ h; omega))
 replace ae := (ae.ai bJ).ai df
 replace ae := ae.dY dE (fun k hk hs => by have := l7 k hk; have := (Own.ge fZ hs).1; omega)
 replace dC := df.af (bJ.af dC)
 replace dC := dE.get dC (fun h => Own.aS fZ dC (by decide) _ h rfl)
 replace bg := df.af (bJ.af bg)
 replace bg := dE.get bg (fun h => Own.lq fZ bg _ h rfl)
 replace bD := df.af (bJ.af bD)
 replace bD := dE.get bD (fun h => Own.iZ fZ bD (by assumption) _ h rfl)
 replace cO := dE.get cO (fun h => BJ _ h rfl)
 replace jT := dE.get jT (fun h => KZ _ h rfl)
 replace hF := hF.go dE (fun i h hs => by (have := (Own.ge fZ hs).1; omega))
 have zz13 := dE.size
 clear fZ
 refine ⟨dE.mono (Nat.le_refl _) (fun i _ h => .inl h), ?_⟩
 refine fM (fun w' hw' => by have ag := hw'.get ag (fun hs => Or.elim (show aH _ _ ∨ _ ≤ _ from hs) gN_h_bp (fun h => by have := gB_h_bp; omega)); have ae := ae.dY hw' (fun k hk hs => Or.elim (show aH _ _ ∨ _ ≤ _ from hs) (fun h => by have := l7 k hk; have := (Own.ge oG_own3 h).1; omega) (fun h => by have := gB_own_p k hk; omega)); exact jZ ag ae rfl) ?_
 refine fM (fun w' hw' => mW (i := (xk : Int)) (j := 1)) ?_
 rw [hN, Gs.sF (by omega)]
 refine aI (fun w16 bQ => ?_)
 have zz16 := bQ.size
 replace ae := ae.ai bQ
 replace ag := bQ.af ag
 refine aN (Ox ag ae rfl (i := ((xk : Int) + 1) % (cs.length : Int))) (fun v17 uY D17 => ?_)
 obtain ⟨A23, c23, rfl, tN, gA23, dh⟩ := D17
 replace ax := bQ.af ax
 have aa9 := gA23.ne (ak ax)
 replace bM := bM.ai bQ
 have JB : _ ∨ ∀ k, _ → ¬ aH _ k := gA23.imp_right fun h k hk hs => by have := h k hk; have := (Own.ge bM hs).2; omega
 replace ah := bQ.af ah
 have amC := gA23.ne (ak ah)
 have amD := gA23.ne (ak ag)
 have aiV : _ ∨ ∀ k, _ → ¬ aH _ k := gA23.imp_right fun h k hk hs => by have := h k hk; have := (Own.ge ae hs).2; omega
 replace dC := bQ.af dC
 have akU := gA23.ne (ak dC)
 replace bg := bQ.af bg
 have amE := gA23.ne (ak bg)
 replace bD := bQ.af bD
 have amF := gA23.ne (ak bD)
 replace cO := bQ.af cO
 have amG := gA23.ne (ak cO)
 replace jT := bQ.af jT
 have alX := gA23.ne (ak jT)
 have zz17 := dh.size
 refine aI (fun xh dO => ?_)
 have zz18 := dO.size
 replace hF := ((hF.go0 bQ).go0 dh).go0 dO
 replace bM := (bM.ai dh).ai dO
 replace tN := tN.ai dO
 refine lw (e := 5) (size := 1) (bytes := 1) (by kernel_rfl) bM tN (by (simp [vals_length]; done)) vN (by simp only [vals_length, List.length_take, List.length_cons, List.length_nil, List.length_append, List.length_map, List.length_range]; omega) (by have := hF.size; omega) (fun v19 Aa N19 hA19 eX => ?_)
 have fZ := bM
 have anR := agJ (S' := xh) JB tN hA19
 replace cO := dO.af (dh.af cO)
 have nc19_b5 : ∀ k, aH v19 k → k ≠ b5 := fun k hk e => Or.elim (hA19 k hk) (fun h => X5 k h e) (fun h => by have := ak cO; omega)
 replace jT := dO.af (dh.af jT)
 have aoK : ∀ k, aH v19 k → k ≠ b11 := fun k hk e => Or.elim (hA19 k hk) (fun h => Vy k h e) (fun h => by have := ak jT; omega)
 replace ax := dO.af (dh.af ax)
 replace ax := eX.get ax (fun h => Own.aS fZ ax (by decide) _ h rfl)
 replace bM := N19
 replace ah := dO.af (dh.af ah)
 replace ah := eX.get ah (fun h => Own.aS fZ ah (by decide) _ h rfl)
 replace ag := dO.af (dh.af ag)
 replace ag := eX.get ag (fun h => by (have := Own.ge fZ h; omega))
 replace ae := (ae.ai dh).ai dO
 replace ae := ae.dY eX (fun k hk hs => by have := l7 k hk; have := (Own.ge fZ hs).1; omega)
 replace dC := dO.af (dh.af dC)
 replace dC := eX.get dC (fun h => Own.aS fZ dC (by decide) _ h rfl)
 replace bg := dO.af (dh.af bg)
 replace bg := eX.get bg (fun h => Own.lq fZ bg _ h rfl)
 replace bD := dO.af (dh.af bD)
 replace bD := eX.get bD (fun h => Own.iZ fZ bD (by assumption) _ h rfl)
 replace cO := eX.get cO (fun h => X5 _ h rfl)
 replace jT := eX.get jT (fun h => Vy _ h rfl)
 replace tN := tN.dY eX JB
 replace hF := hF.go eX (fun i h hs => by (have := (Own.ge fZ hs).1; omega))
 have zz19 := eX.size
 clear fZ
 refine aI (fun wY dR => ?_)
 have zz20 := dR.size
 replace bM := bM.ai dR
 replace ax := dR.af ax
 refine mQ (by kernel_rfl) (Own.Ep bM).1 (Own.Ep bM).2 ax (Nat.le_of_ble_eq_true rfl) (by (simp [ul]; rfl)) (fun BQ ax _ dV => ?_)
 replace ae := ae.ai dR
 replace tN := tN.ai dR
 replace ah := dR.af ah
 replace ag := dR.af ag
 replace dC := dR.af dC
 replace bg := dR.af bg
 replace bD := dR.af bD
 replace cO := dR.af cO
 replace jT := dR.af jT
 replace hF := hF.go0 dR
 replace bM := bM.aG dV (Own.aS bM (by assumption) (by decide))
 have zz21 := dV.size
 refine aI (fun Hy gY => ?_)
 have zz22 := gY.size
 replace ah := gY.af (dV.aj ah lS)
 refine Z.l ah ?_
 replace cO := gY.af (dV.aj cO (Ne.symm nz))
 refine Z.b 3 ((Gs.fv (Gs.kP cs xk)).toArray) cO ?_
 replace ae := (ae.aG dV dH).ai gY
 replace ag := gY.af (dV.aj ag eY)
 refine aN (zu ag ae rfl (f := (Gs.kP cs xk))) (fun v23 ES D23 => ?_)
 obtain ⟨b1_27, b2_27, rfl, g1_27, g2_27, iQ, iR, jg⟩ := D23
 replace ax := gY.af ax
 have WR : b2 ≠ b1_27 := by have := ak ax; omega
 replace bM := bM.ai gY
 have aiW : ∀ k, aH _ k → k ≠ b1_27 := fun k hk => by have := (Own.ge bM hk).2; omega
 have alY : b1 ≠ b1_27 := by have := ak ah; omega
 have alZ : bp ≠ b1_27 := by have := ak ag; omega
 have aiG : ∀ k, aH _ k → k ≠ b1_27 := fun k hk => by have := (Own.ge ae hk).2; omega
 replace dC := gY.af (dV.aj dC (Ne.symm Oy))
 have aiX : b1_8 ≠ b1_27 := by have := ak dC; omega
 replace bg := gY.af (dV.aj bg (Ne.symm uq))
 have al0 : D2 ≠ b1_27 := by have := ak bg; omega
 replace bD := gY.af (dV.aj bD (Ne.symm gJ))
 have al1 : l2 ≠ b1_27 := by have := ak bD; omega
 have al2 : b5 ≠ b1_27 := by have := ak cO; omega
 replace jT := gY.af (dV.aj jT (Ne.symm ac6))
 have akV : b11 ≠ b1_27 := by have := ak jT; omega
 replace tN := (tN.aG dV aa9).ai gY
 have aiY := (tN.lt).ne (b := b1_27) (by omega)
 replace hF := (hF.go1 dV eU).go0 gY
 have aoL : w.heap.size ≤ b1_27 := by have := hF.size; omega
 have WS : b2 ≠ b2_27 := by have := ak ax; omega
 have aiZ : ∀ k, aH _ k → k ≠ b2_27 := fun k hk => by have := (Own.ge bM hk).2; omega
 have al3 : b1 ≠ b2_27 := by have := ak ah; omega
 have al4 : bp ≠ b2_27 := by have := ak ag; omega
 have aiH : ∀ k, aH _ k → k ≠ b2_27 := fun k hk => by have := (Own.ge ae hk).2; omega
 have ai0 : b1_8 ≠ b2_27 := by have := ak dC; omega
 have al5 : D2 ≠ b2_27 := by have := ak bg; omega
 have al6 : l2 ≠ b2_27 := by have := ak bD; omega
 have al7 : b5 ≠ b2_27 := by have := ak cO; omega
 have akW : b11 ≠ b2_27 := by have := ak jT; omega
 have ai1 := (tN.lt).ne (b := b2_27) (by omega)
 have aoM : w.heap.size ≤ b2_27 := by have := hF.size; omega
 have zz23 := jg.size
 replace bD := jg.af bD
 refine ae1 (by kernel_rfl) bD lp2_2 (fun Ql l3 Rdy3 Bsy3 Dn3 y3 el mJ lp1_3 lp2_3 lp3_3 sz24 jH hY => ?_)
 replace ax := jg.af ax
 have Du : b2 ≠ l3 := by have := ak ax; omega
 replace bM := bM.ai jg
 have amH : ∀ k, aH _ k → k ≠ l3 := fun k hk => by have := (Own.ge bM hk).2; omega
 replace ah := jg.af ah
 have He : b1 ≠ l3 := by have := ak ah; omega
 replace ag := jg.af ag
 have Hf : bp ≠ l3 := by have := ak ag; omega
 replace ae := ae.ai jg
 have zY : ∀ k, aH _ k → k ≠ l3 := fun k hk => by have := (Own.ge ae hk).2; omega
 replace dC := jg.af dC
 have BK : b1_8 ≠ l3 := by have := ak dC; omega
 replace bg := jg.af bg
 have Hg : D2 ≠ l3 := by have := ak bg; omega
 have Hl : l2 ≠ l3 := by have := ak bD; omega
 replace cO := jg.af cO
 have aoN : b5 ≠ l3 := by have := ak cO; omega
 replace jT := jg.af jT
 have anS : b11 ≠ l3 := by have := ak jT; omega
 replace tN := tN.ai jg
 have amI := (tN.lt).ne (b := l3) (by omega)
 have EH : b1_27 ≠ l3 := by have := ak iQ; omega
 have EI : b2_27 ≠ l3 := by have := ak iR; omega
 replace hF := hF.go0 jg
 have Sz : w.heap.size ≤ l3 := by have := hF.size; omega
 have zz24 := jH.size
 replace bM := bM.ai jH
 replace ae := ae.ai jH
 replace ax := jH.af ax
 replace ah := jH.af ah
 replace ag := jH.af ag
 replace dC := jH.af dC
 replace bg := jH.af bg
 replace bD := jH.af bD
 replace iQ := jH.af iQ
 replace iR := jH.af iR
 replace hF := hF.go0 jH
 refine Calls.mono (Ci (b1 := b1_27) (b2 := b2_27) (f := (Gs.kP cs xk)) (J := (fun (m : Nat) (w' : World) => ∃ (v3 : Value), (Z.h w' b2 #[v3] 24) ∧ (Own w.heap.size w' 5 1 v3 (vals .u8 (Gs.wV cs k ++ Gs.Eb cs (Gs.kP cs xk) ++ Gs.mi cs ((Gs.iJ cs.length (Gs.kP cs xk)).take m)))) ∧ (Z.h w' b1 #[Z.p bp] 33) ∧ (Z.h w' bp #[Z.i r, Z.i c, .slice A cs.length cp, Z.i cur] 91) ∧ (Own B0 w' 37 5 (.slice A cs.length cp) (rows Gs.cv cs)) ∧ (Z.h w' b1_8 #[Z.p bp] 33) ∧ (Z.h w' b1_27 #[Z.p bp] 33) ∧ (Z.h w' b2_27 ((Gs.fv (Gs.kP cs xk)).toArray) 173) ∧ (w'.heap[l3]? = some Rdy3) ∧ (w'.heap[l2]? = some Bsy2) ∧ (w'.heap[D2]? = some (.deferred (some []))) ∧ (aA no w w'))) (X := (fun _ => False)) (fun _ w' hJ => by obtain ⟨v3, ax, bM, ah, ag, ae, dC, iQ, iR, mJ, bD, bg, hF⟩ := hJ; exact ⟨iQ, iR, ag, ae⟩) (fun _ w' w'' hJ U' => by obtain ⟨v3, ax, bM, ah, ag, ae, dC, iQ, iR, mJ, bD, bg, hF⟩ := hJ; exact ⟨v3, U'.af ax, bM.ai U', U'.af ah, U'.af ag, ae.ai U', U'.af dC, U'.af iQ, U'.af iR, U'.af mJ, U'.af bD, U'.af bg, hF.go0 U'⟩) (fun _ _ h _ => h.elim) (fun _ h => h.elim) rfl hN hb ?_ ?_) ?_
 intro m wl3 xm hxm hI
 obtain ⟨v3, ax, bM, ah, ag, ae, dC, iQ, iR, mJ, bD, bg, hF⟩ := hI
 have hkm := (List.getElem?_eq_some_iff.1 hxm).1
 have hfl := Gs.GH cs ((Gs.iJ cs.length (Gs.kP cs xk)).take m)
 rw [List.length_take] at hfl
 have hhl : (Gs.Eb cs (Gs.kP cs xk)).length = 3 := by rw [Gs.XI]; rfl
 refine hY [Z.i xm] _ _ rfl mJ ?_
 simp only [List.getD_cons_zero, List.getD_cons_succ]
 refine xn mJ (fun Hz mJ _ gz => ?_)
 replace bM := bM.aG gz (Own.iZ bM (by assumption) (by assumption))
 have zz25 := gz.size
 replace ah := gz.aj ah He
 refine Z.l ah ?_
 replace ae := ae.aG gz zY
 replace ag := gz.aj ag Hf
 refine aB (iw ag ae rfl (i := xm)) (fun MX je => ?_)
 have zz26 := je.size
 refine Z.n ((Gs.cv Gs.zc).toArray) (fun b27 IV e27 vC _ gB => ?_)
 replace ax := je.af (gz.aj ax Du)
 have QV : b2 ≠ b27 := by have := ak ax; omega
 replace bM := bM.ai je
 have EJ := bM.apart e27
 replace ah := je.af ah
 have QW : b1 ≠ b27 := by have := ak ah; omega
 replace ag := je.af ag
 have QX : bp ≠ b27 := by have := ak ag; omega
 replace ae := ae.ai je
 have JC := ae.apart e27
 replace dC := je.af (gz.aj dC BK)
 have La : b1_8 ≠ b27 := by have := ak dC; omega
 replace iQ := je.af (gz.aj iQ EH)
 have JD : b1_27 ≠ b27 := by have := ak iQ; omega
 replace iR := je.af (gz.aj iR EI)
 have JE : b2_27 ≠ b27 := by have := ak iR; omega
 replace mJ := je.af mJ
 have QY : l3 ≠ b27 := by have := ak mJ; omega
 replace bD := je.af (gz.aj bD Hl)
 have QZ : l2 ≠ b27 := by have := ak bD; omega
 replace bg := je.af (gz.aj bg Hg)
 have Q3 : D2 ≠ b27 := by have := ak bg; omega
 replace hF := (hF.go1 gz Sz).go0 je
 have ac7 : w.heap.size ≤ b27 := by have := hF.size; omega
 have zz27 := gB.size
 refine Z.t 5 ((Gs.cv (Gs.bK cs xm)).toArray) (by (simp [Value.cells, Value.oneCell', Gs.cv, Gs.fv, Gs.ie]; done)) vC (fun Xh vC _ jO => ?_)
 have zz28 := jO.size
 refine Z.b 5 ((Gs.cv (Gs.bK cs xm)).toArray) vC ?_
 refine dU (Ou) (fun Xd kM h29 => ?_) (fun Xd kM h29 => ?_)
 have zz29 := kM.size
 refine au (kz) ?_
 refine aF ?_
 replace mJ := kM.af (jO.aj (gB.af mJ) QY)
 refine sD mJ (fun w30 mJ _ sK => ?_)
 replace bM := ((bM.ai gB).aG jO EJ).ai kM
 replace ae := ((ae.ai gB).aG jO JC).ai kM
 replace ax := kM.af (jO.aj (gB.af ax) QV)
 replace ah := kM.af (jO.aj (gB.af ah) QW)
 replace ag := kM.af (jO.aj (gB.af ag) QX)
 replace dC := kM.af (jO.aj (gB.af dC) La)
 replace iQ := kM.af (jO.aj (gB.af iQ) JD)
 replace iR := kM.af (jO.aj (gB.af iR) JE)
 replace bD := kM.af (jO.aj (gB.af bD) QZ)
 replace bg := kM.af (jO.aj (gB.af bg) Q3)
 replace hF := ((hF.go0 gB).go1 jO ac7).go0 kM
 replace bM := bM.aG sK (Own.iZ bM (by assumption) (by assumption))
 have zz30 := sK.size
 replace ae := ae.aG sK zY
 replace ax := sK.aj ax Du
 replace ah := sK.aj ah He
 replace ag := sK.aj ag Hf
 replace dC := sK.aj dC BK
 replace iQ := sK.aj iQ EH
 replace iR := sK.aj iR EI
 replace bD := sK.aj bD Hl
 replace bg := sK.aj bg Hg
 replace hF := hF.go1 sK Sz
 exact ⟨_, ax, (by (rw [← Gs.acm hxm (by assumption)]; exact bM)), ah, ag, ae, dC, iQ, iR, mJ, bD, bg, hF⟩
 have zz29 := kM.size
 refine au (nP) ?_
 refine aK ?_
 refine dK (S := aH (v3)) (fun w31 pG => ?_)
 replace bM := (((bM.ai gB).aG jO EJ).ai kM).ai pG
 replace ax := pG.af (kM.af (jO.aj (gB.af ax) QV))
 refine bI (fun w' hw' => by have ax := hw'.get ax (fun h => Own.aS bM ax (by decide) _ h rfl); exact (kT (by kernel_rfl) ax (by rfl))) ?_
 replace vC := pG.af (kM.af vC)
 refine bI (fun w' hw' => by have vC := (Fr.jk hw').af vC; exact (zg (n := 5) (cs' := (Gs.cv (Gs.bK cs xm)).toArray) (by kernel_rfl) vC (Nat.le_of_ble_eq_true rfl) (by rfl))) ?_
 refine aI (fun w32 lZ => ?_)
 refine jo ?_
 refine aN (Ov) (fun v33 w33 D33 => ?_)
 obtain ⟨qw, vz⟩ := D33
 obtain ⟨A37, c37, rfl, _⟩ := qw.bH
 replace ax := lZ.af ax
 have agO : ¬ aH _ b2 := fun h => by have := (Own.ge qw h).1; have := ak ax; omega
 replace bM := bM.ai lZ
 have Oz : ∀ k, aH _ k → ¬ aH _ k := fun k hk hs => by have := (Own.ge bM hk).2; have := (Own.ge qw hs).1; omega
 replace ah := lZ.af (pG.af (kM.af (jO.aj (gB.af ah) QW)))
 have agP : ¬ aH _ b1 := fun h => by have := (Own.ge qw h).1; have := ak ah; omega
 replace ag := lZ.af (pG.af (kM.af (jO.aj (gB.af ag) QX)))
 have agQ : ¬ aH _ bp := fun h => by have := (Own.ge qw h).1; have := ak ag; omega
 replace ae := ((((ae.ai gB).aG jO JC).ai kM).ai pG).ai lZ
 have ae2 : ∀ k, aH _ k → ¬ aH _ k := fun k hk hs => by have := (Own.ge ae hk).2; have := (Own.ge qw hs).1; omega
 replace dC := lZ.af (pG.af (kM.af (jO.aj (gB.af dC) La)))
 have adB : ¬ aH _ b1_8 := fun h => by have := (Own.ge qw h).1; have := ak dC; omega
 replace iQ := lZ.af (pG.af (kM.af (jO.aj (gB.af iQ) JD)))
 have ac8 : ¬ aH _ b1_27 := fun h => by have := (Own.ge qw h).1; have := ak iQ; omega
 replace iR := lZ.af (pG.af (kM.af (jO.aj (gB.af iR) JE)))
 have ac9 : ¬ aH _ b2_27 := fun h => by have := (Own.ge qw h).1; have := ak iR; omega
 replace mJ := lZ.af (pG.af (kM.af (jO.aj (gB.af mJ) QY)))
 have agR : ¬ aH _ l3 := fun h => by have := (Own.ge qw h).1; have := ak mJ; omega
 replace bD := lZ.af (pG.af (kM.af (jO.aj (gB.af bD) QZ)))
 have agS : ¬ aH _ l2 := fun h => by have := (Own.ge qw h).1; have := ak bD; omega
 replace bg := lZ.af (pG.af (kM.af (jO.aj (gB.af bg) Q3)))
 have agT : ¬ aH _ D2 := fun h => by have := (Own.ge qw h).1; have := ak bg; omega
 replace vC := lZ.af vC
 have ae3 : ¬ aH _ b27 := fun h => by have := (Own.ge qw h).1; have := ak vC; omega
 replace hF := ((((hF.go0 gB).go1 jO ac7).go0 kM).go0 pG).go0 lZ
 replace qw := qw.mono (B' := w.heap.size) hF.size
 have hbl := Gs.Jk (Gs.bK cs xm)
 refine ⟨vz.any, ?_⟩
 refine aI (fun Xa oM => ?_)
 replace bM := (bM.ai vz).ai oM
 replace hF := (hF.go0 vz).go0 oM
 replace qw := qw.ai oM
 refine lw (e := 5) (size := 1) (bytes := 1) (by kernel_rfl) bM qw.yZ (by (simp [vals_length]; done)) vN (by simp only [vals_length, List.length_take, List.length_cons, List.length_nil, List.length_append, List.length_map, List.length_range]; omega) (by have := hF.size; omega) (fun v35 w35 N35 hA35 pV => ?_)
 have fZ := bM
 have amJ := Jf (S' := Xa) (fun k hk hs => Oz k hs hk) qw hA35
 replace vC := oM.af (vz.af vC)
 have aoO : ∀ k, aH v35 k → k ≠ b27 := fun k hk e => Or.elim (hA35 k hk) (fun h => EJ k h e) (fun h => by have := ak vC; omega)
 replace ax := oM.af (vz.af ax)
 replace ax := pV.get ax (fun h => Own.aS fZ ax (by decide) _ h rfl)
 replace bM := N35
 replace ah := oM.af (vz.af ah)
 replace ah := pV.get ah (fun h => Own.aS fZ ah (by decide) _ h rfl)
 replace ag := oM.af (vz.af ag)
 replace ag := pV.get ag (fun h => by (have := Own.ge fZ h; omega))
 replace ae := (ae.ai vz).ai oM
 replace ae := ae.dY pV (fun k hk hs => by have := l7 k hk; have := (Own.ge fZ hs).1; omega)
 replace dC := oM.af (vz.af dC)
 replace dC := pV.get dC (fun h => Own.aS fZ dC (by decide) _ h rfl)
 replace iQ := oM.af (vz.af iQ)
 replace iQ := pV.get iQ (fun h => Own.aS fZ iQ (by decide) _ h rfl)
 replace iR := oM.af (vz.af iR)
 replace iR := pV.get iR (fun h => Own.aS fZ iR (by decide) _ h rfl)
 replace mJ := oM.af (vz.af mJ)
 replace bD := oM.af (vz.af bD)
 replace bg := oM.af (vz.af bg)
 replace mJ := pV.get mJ (fun h => Own.iZ fZ mJ (by assumption) _ h rfl)
 replace bD := pV.get bD (fun h => Own.iZ fZ bD (by assumption) _ h rfl)
 replace bg := pV.get bg (fun h => Own.lq fZ bg _ h rfl)
 replace hF := hF.go pV (fun i h hs => by (have := (Own.ge fZ hs).1; omega))
 clear fZ
 refine aI (fun w36 oO => ?_)
 replace bM := bM.ai oO
 replace ax := oO.af ax
 refine mQ (by kernel_rfl) (Own.Ep bM).1 (Own.Ep bM).2 ax (Nat.le_of_ble_eq_true rfl) (by (simp [ul]; rfl)) (fun w37 ax _ pK => ?_)
 replace ae := ae.ai oO
 replace ah := oO.af ah
 replace ag := oO.af ag
 replace dC := oO.af dC
 replace iQ := oO.af iQ
 replace iR := oO.af iR
 replace mJ := oO.af mJ
 replace bD := oO.af bD
 replace bg := oO.af bg
 replace hF := hF.go0 oO
 replace bM := bM.aG pK (Own.aS bM (by assumption) (by decide))
 refine aI (fun w38 wR => ?_)
 replace mJ := wR.af (pK.aj mJ (Ne.symm Du))
 refine sD mJ (fun w39 mJ _ ve => ?_)
 replace ae := (ae.aG pK dH).ai wR
 replace ah := wR.af (pK.aj ah lS)
 replace ag := wR.af (pK.aj ag eY)
 replace dC := wR.af (pK.aj dC (Ne.symm Oy))
 replace iQ := wR.af (pK.aj iQ (Ne.symm WR))
 replace iR := wR.af (pK.aj iR (Ne.symm WS))
 replace bD := wR.af (pK.aj bD (Ne.symm gJ))
 replace bg := wR.af (pK.aj bg (Ne.symm uq))
 replace hF := (hF.go1 pK eU).go0 wR
 replace bM := bM.ai wR
 replace ax := wR.af ax
 replace bM := bM.aG ve (Own.iZ bM (by assumption) (by assumption))
 replace ae := ae.aG ve zY
 replace ax := ve.aj ax Du
 replace ah := ve.aj ah He
 replace ag := ve.aj ag Hf
 replace dC := ve.aj dC BK
 replace iQ := ve.aj iQ EH
 replace iR := ve.aj iR EI
 replace bD := ve.aj bD Hl
 replace bg := ve.aj bg Hg
 replace hF := hF.go1 ve Sz
 exact ⟨_, ax, (by (rw [← Gs.acn hxm (by assumption), ← List.append_assoc, ← zW]; exact bM)), ah, ag, ae, dC, iQ, iR, mJ, bD, bg, hF⟩
 exact ⟨_, ax, (by rw [Gs.XI, List.take_zero, show Gs.mi cs [] = [] from rfl, List.append_nil, ← List.append_assoc, ← zW, ← zW]; exact bM), ah, ag, ae, dC, iQ, iR, mJ, bD, bg, hF⟩
 rintro e wE3 ⟨hv, hI | hI⟩
 obtain ⟨v3, ax, bM, ah, ag, ae, dC, iQ, iR, mJ, bD, bg, hF⟩ := hI
 refine ⟨hv, .inl ⟨mJ, fun w40 _ nD => ?_⟩⟩
 replace bM := bM.aG nD (Own.iZ bM (by assumption) (by assumption))
 replace bD := nD.aj bD Hl
 refine sD bD (fun w41 bD _ H7 => ?_)
 replace ae := ae.aG nD zY
 replace ax := nD.aj ax Du
 replace ah := nD.aj ah He
 replace ag := nD.aj ag Hf
 replace dC := nD.aj dC BK
 replace bg := nD.aj bg Hg
 replace hF := hF.go1 nD Sz
 replace bM := bM.aG H7 (Own.iZ bM (by assumption) (by assumption))
 replace ae := ae.aG H7 eQ
 replace ax := H7.aj ax gJ
 replace ah := H7.aj ah iK
 replace ag := H7.aj ag iF
 replace dC := H7.aj dC BI
 replace bg := H7.aj bg fD
 replace hF := hF.go1 H7 jJ
 exact ⟨_, ax, (by (rw [← Gs.aj3 hx (by assumption), ← List.append_assoc]; rw [List.take_of_length_le (Nat.le_refl _)] at bM; exact bM)), ah, ag, ae, dC, bg, bD, hF⟩
 exact hI.elim
 simp only [Z.d, Z.c] at h8
 refine au (nP) ?_
 refine aK ?_
 replace bD := U8.af bD
 refine sD bD (fun w42 bD _ qU => ?_)
 replace ae := (ae.aG U7 eQ).ai U8
 replace ax := U8.af (U7.aj ax gJ)
 replace ah := U8.af (U7.aj ah iK)
 replace ag := U8.af (U7.aj ag iF)
 replace dC := U8.af (U7.aj dC BI)
 replace bg := U8.af (U7.aj bg fD)
 replace hF := (hF.go1 U7 jJ).go0 U8
 replace bM := bM.ai U8
 replace bM := bM.aG qU (Own.iZ bM (by assumption) (by assumption))
 have zz42 := qU.size
 replace ae := ae.aG qU eQ
 replace ax := qU.aj ax gJ
 replace ah := qU.aj ah iK
 replace ag := qU.aj ag iF
 replace dC := qU.aj dC BI
 replace bg := qU.aj bg fD
 replace hF := hF.go1 qU jJ
 exact ⟨_, ax, (by (rw [← Gs.aj6 hx (by assumption)]; exact bM)), ah, ag, ae, dC, bg, bD, hF⟩
 exact ⟨_, ax, (Own.nil _ _ _ _), ah, ag, ae, dC, bg, bD, hF⟩
 rintro e wE2 ⟨hv, hI | hI⟩
 obtain ⟨v3, ax, bM, ah, ag, ae, dC, bg, bD, hF⟩ := hI
 refine ⟨hv, .inl ⟨bD, fun w43 _ oW => ?_⟩⟩
 replace bM := bM.aG oW (Own.iZ bM (by assumption) (by assumption))
 have zz43 := oW.size
 refine hJ1 _ _ ?_
 replace ax := oW.aj ax gJ
 replace bg := oW.aj bg fD
 replace hF := hF.go1 oW jJ
 exact ⟨_, _, (by rfl), nN, bg, ax, bM, hF⟩
 exact hI.elim
 replace hF := hF.go0 U2
 obtain ⟨D2, v3, g1000000, nN, bg, ax, bM, hF⟩ := hI
 rw [g1000000]
 refine Z.l ax ?_
 refine leave1 bg (fun w45 _ Au => ?_)
 replace ae := ae.ai U2
 replace ag := U2.af ag
 replace ah := U2.af ah
 replace bM := bM.aG Au (Own.lq bM (by assumption))
 have zz45 := Au.size
 replace hF := hF.go1 Au nN
 exact ⟨_, rfl, bM, hF⟩
theorem ae4 {r c cur : Int} {A : Option Addr} {n cp bp B0 : Nat} {cs : List Gs.Cell} {w : World} (ag : Z.h w bp #[Z.i r, Z.i c, .slice A n cp, Z.i cur] 91) (ae : Own B0 w 37 5 (.slice A n cp) (rows Gs.cv cs)) (hn : n = cs.length) {x : Int} (hp : 0 < n) (hN : Gs.aZ r c = n) (hb : n ≤ 4096) (hcw : Gs.jh cs)  :
    oX 55 #[Z.p bp, Z.u x] w fun e w' => ∃ v, e = .returned v ∧ Own w.heap.size w' 5 1 v (vals .u8 (Gs.allB cs cur x)) ∧ aA no w w' := by
 refine F55.calls ?_
 unfold F55
 subst hn
 have hwl := Gs.GH cs (Gs.ji cs)
 rw [Gs.zS] at hwl
 have hoe := Gs.aco hb
 have hF : aA no w w := Fr.refl _ _ _
 refine dM (e := 5) (m := 1) (z := #[Z.u 0]) (by kernel_rfl) (by kernel_rfl) (by rfl) (by decide) (by (simp [eH, splice, fU, Value.cells, Gs.cv, Gs.fv, Gs.ie]; rfl)) (fun b1 w1 e1 ah _ U1 => ?_)
 have kD : bp ≠ b1 := by have := ak ag; omega
 have ik := ae.apart e1
 have bZ : w.heap.size ≤ b1 := by have := hF.size; omega
 have zz1 := U1.size
 have o5 := Own.of_block (B := w.heap.size) (n := 1) (xs := vals .u8 [x]) (size := 1) ah bZ rfl (by decide)
 replace ae := ae.ai U1
 replace ag := U1.af ag
 refine aB (dW ag ae rfl) (fun w2 U2 => ?_)
 have zz2 := U2.size
 replace ae := ae.ai U2
 replace ag := U2.af ag
 refine aN (Ox ag ae rfl (i := cur)) (fun v3 w3 D3 => ?_)
 obtain ⟨A11, c11, rfl, Vm, gA11, U3⟩ := D3
 have zz3 := U3.size
 replace hF := ((hF.go0 U1).go0 U2).go0 U3
 replace o5 := (o5.ai U2).ai U3
 refine lw (e := 5) (size := 1) (bytes := 1) (by kernel_rfl) o5 Vm (by (simp [vals_length]; done)) vN (by simp only [vals_length, List.length_take, List.length_cons, List.length_nil, List.length_append, List.length_map, List.length_range]; omega) (by have := hF.size; omega) (fun v4 w4 N4 hA4 U4 => ?_)
 have qP := o5
 replace ag := U3.af ag
 replace ag := U4.get ag (fun hs => by cases hs; exact kD rfl)
 replace ae := ae.ai U3
 replace ae := ae.dY U4 (fun k hk hs => by cases hs; exact ik _ hk rfl)
 replace o5 := N4
 replace hF := hF.go U4 (fun i h hs => by (have := (Own.ge qP hs).1; omega))
 have zz4 := U4.size
 clear qP
 refine dU (Bg ag ae rfl hN hb) (fun w5 U5 h5 => ?_) (fun w5 U5 h5 => ?_)
 have zz5 := U5.size
 simp only [Z.d, Z.c] at h5
 refine aK ?_
 replace ae := ae.ai U5
 replace ag := U5.af ag
 refine aN (WQ ag ae rfl hN hb hcw) (fun v6 w6 D6 => ?_)
 obtain ⟨xI, U6⟩ := D6
 obtain ⟨A17, c17, rfl, _⟩ := xI.bH
 replace hF := hF.go0 U5
 replace xI := xI.mono (B' := w.heap.size) hF.size
 have zz6 := U6.size
 replace o5 := (o5.ai U5).ai U6
 replace hF := hF.go0 U6
 refine lw (e := 5) (size := 1) (bytes := 1) (by kernel_rfl) o5 xI.yZ (by (simp [vals_length]; done)) vN (by simp only [vals_length, List.length_take, List.length_cons, List.length_nil, List.length_append, List.length_map, List.length_range]; omega) (by have := hF.size; omega) (fun v7 w7 N7 hA7 U7 => ?_)
 have qP := o5
 replace hF := hF.go U7 (fun i h hs => by (have := (Own.ge qP hs).1; omega))
 have zz7 := U7.size
 clear qP
 exact ⟨_, rfl, by rw [← Gs.aj7 (Gs.aml hp (by assumption))]; assumption, hF⟩
 have zz5 := U5.size
 simp only [Z.d, Z.c] at h5
 refine aF ?_
 replace ae := ae.ai U5
 replace ag := U5.af ag
 refine aN (aa7 ag ae rfl hb) (fun v9 w9 D9 => ?_)
 obtain ⟨SA, U9⟩ := D9
 obtain ⟨A21, c21, rfl, _⟩ := SA.bH
 replace hF := hF.go0 U5
 replace SA := SA.mono (B' := w.heap.size) hF.size
 have zz9 := U9.size
 replace o5 := (o5.ai U5).ai U9
 replace hF := hF.go0 U9
 refine lw (e := 5) (size := 1) (bytes := 1) (by kernel_rfl) o5 SA.yZ (by (simp [vals_length]; done)) vN (by simp only [vals_length, List.length_take, List.length_cons, List.length_nil, List.length_append, List.length_map, List.length_range]; omega) (by have := hF.size; omega) (fun v10 w10 N10 hA10 aW => ?_)
 have qP := o5
 replace hF := hF.go aW (fun i h hs => by (have := (Own.ge qP hs).1; omega))
 have zz10 := aW.size
 clear qP
 exact ⟨_, rfl, by rw [← Gs.aj8 (Gs.amm hp (by assumption))]; assumption, hF⟩
theorem Q4 {r c cur : Int} {A : Option Addr} {n cp bp B0 : Nat} {cs : List Gs.Cell} {w : World} (ag : Z.h w bp #[Z.i r, Z.i c, .slice A n cp, Z.i cur] 91) (ae : Own B0 w 37 5 (.slice A n cp) (rows Gs.cv cs)) (hn : n = cs.length) {x : Int} (hp : 0 < n) (hN : Gs.aZ r c = n) (hb : n ≤ 4096) (hcw : Gs.jh cs)  :
    oX 20 #[Z.p bp, Z.u x] w fun e w' => ∃ v, e = .returned v ∧ Own w.heap.size w' 5 1 v (vals .u8 (Gs.readB cs cur x)) ∧ aA no w w' := by
 refine F20.calls ?_
 unfold F20
 have wJ := ak ag
 have l7 := Own.lt ae
 have hF : aA no w w := Fr.refl _ _ _
 refine dU (aa6) (fun w1 U1 h1 => ?_) (fun w1 U1 h1 => ?_)
 have zz1 := U1.size
 simp only [Z.d, Z.c] at h1
 refine aK ?_
 refine dM (e := 5) (m := 1) (z := #[Z.u 0]) (by kernel_rfl) (by kernel_rfl) (by rfl) (by decide) (by (simp [eH, splice, fU, Value.cells, Gs.cv, Gs.fv, Gs.ie]; rfl)) (fun b2 w2 e2 ax _ U2 => ?_)
 replace ag := U1.af ag
 have eY : bp ≠ b2 := by have := ak ag; omega
 replace ae := ae.ai U1
 have dH := ae.apart e2
 replace hF := hF.go0 U1
 have eU : w.heap.size ≤ b2 := by have := hF.size; omega
 have zz2 := U2.size
 replace hF := hF.go0 U2
 exact ⟨_, rfl, by rw [Gs.XJ (by assumption)]; exact Own.of_block (n := 1) (xs := [_]) (by assumption) (by omega) rfl (by decide), hF⟩
 have zz1 := U1.size
 simp only [Z.d, Z.c] at h1
 refine aF ?_
 replace ae := ae.ai U1
 replace ag := U1.af ag
 refine aN (ae4 ag ae hn hp hN hb hcw) (fun v4 w4 D4 => ?_)
 obtain ⟨Kt, U4⟩ := D4
 obtain ⟨A11, c11, rfl, _⟩ := Kt.bH
 have aiI : ¬ aH _ bp := fun h => by have := (Own.ge Kt h).1; have := ak ag; omega
 have agU : ∀ k, aH _ k → ¬ aH _ k := fun k hk hs => by have := (Own.ge ae hk).2; have := (Own.ge Kt hs).1; omega
 replace hF := hF.go0 U1
 replace Kt := Kt.mono (B' := w.heap.size) hF.size
 have zz4 := U4.size
 replace hF := hF.go0 U4
 exact ⟨_, rfl, by rw [Gs.ahW (by assumption)]; exact Kt, hF⟩
section
variable (R : Ending → World → Prop) (w : World)
set_option maxRecDepth 100000
def F8 : Prop :=
 oD 32 #[(0, (Z.i 1)), (1, (Z.i 6))] w R fun t7 w =>
 oC 33 #[t7] w R fun t8 w =>
 oE t8 0 w R fun t9 w =>
 oE t8 1 w R fun t10 w =>
 oQ true .eql 33 t9 (.pointer none) w R fun t12 w =>
 cond t12 (R (.returned (.bool false)) w)
 (oD 37 #[(2, (.bool true))] w R fun t14 w =>
 oC 14 #[t9, (Z.i 0), t14] w R fun t15 w =>
 oC 36 #[t9, (Z.i 1)] w R fun t17 w =>
 oC 37 #[t9, (Z.u 193), (.bool false)] w R fun t19 w =>
 oC 20 #[t9, (Z.u 125)] w R fun t22 w =>
 oC 19 #[t22] w R fun t23 w =>
 oE t23 0 w R fun t24 w =>
 oE t23 1 w R fun t25 w =>
 oA 48 w R fun t4 w =>
 oS 48 t4 t24 w R fun _ w =>
 oQ true .eql 25 t19 (Z.i 0) w R fun t27 w =>
 gd t27 true (fun K => K t25 w) w fun t29 w =>
 gd t27 true (fun K => oQ true .eql 25 t29 (Z.i 0) w R K) w fun t30 w =>
 pick t27 t30 (.bool false) w fun t31 w =>
 gd t31 true (fun K => oL 48 t4 w R K) w fun t33 w =>
 gd t31 true (fun K => oC 38 #[(Z.i 37), t33] w R K) w fun t34 w =>
 gd t31 true (fun K => oQ true .eql 9 t34 (.string ⟨#[69, 78, 84, 69, 82, 32, 64, 50, 32, 49, 61, 65]⟩) w R K) w fun t35 w =>
 pick t31 t35 (.bool false) w fun t36 w =>
 gd t36 true (fun K => oC 39 #[(Z.i 37), (Z.u 193)] w R K) w fun t38 w =>
 gd t36 true (fun K => oQ true .eql 21 t38 (.int .i32 65) w R K) w fun t39 w =>
 pick t36 t39 (.bool false) w fun t40 w =>
 R (.returned t40) w)
theorem F8.calls {R w} : F8 R w → oX 8 #[] w R := Z.k (args := []) [0,1,3,4,5,12]
end
theorem aat {A : Option Addr} {n cp : Nat} {bs : List Int} {w : World} (bH : Rd w A (vals .u8 bs)) (hn : n = bs.length) (hc : n ≤ cp) (hbs : Bs bs) (hbd : n ≤ 100000) :
    oX 19 #[.slice A n cp] w fun e w' => ∃ v, e = .returned v ∧ ∃ (q : Gs.Inb) (l : List Gs.It) (A' : Option Addr) (c' : Nat), q = Gs.O0 bs ∧ q.items = Gs.its l ∧ v = .tuple #[.agg #[Z.u q.jV, .bool q.alone, Z.i q.cur, .slice A' l.length c'], Z.i (Gs.adK (Gs.wS bs))] ∧ Rd w' A' (rows Gs.ie l) ∧ Gs.Cl w' l ∧ Gs.Iw l ∧ vG A' (rows Gs.ie l) w.heap.size ∧ Gs.UD l w.heap.size ∧ (0 ≤ q.jV ∧ q.jV ≤ 255) ∧ aA no w w' := by
 refine F19.calls ?_
 unfold F19
 have hF : aA no w w := Fr.refl _ _ _
 refine Z.n (#[Z.u 0, .bool false, Z.i 0, .slice none 0 0]) (fun b1 w1 e1 ah _ U1 => ?_)
 have bZ : w.heap.size ≤ b1 := by have := hF.size; omega
 replace bH := bH.ai U1
 refine aN (SQ bH hn hc hbs hbd) (fun v2 w2 D2 => ?_)
 obtain ⟨q5, l5, A5, c5, hq5, hi5, rfl, TR, ael, hw5, gA5, gC05, ha5, U2⟩ := D2
 have gC5 : Gs.UD l5 _ := .inr gC05
 replace hF := hF.go0 U1
 have qF5 := hF.size
 have ab9 := gA5.ne (ak ah)
 have aau := gC5.ne (ak ah)
 refine Z.e ?_
 refine Z.e ?_
 replace ah := U2.af ah
 refine Z.t 4 (#[Z.u q5.jV, .bool q5.alone, Z.i q5.cur, .slice A5 l5.length c5]) (by (simp [Value.cells, Value.oneCell', Gs.cv, Gs.ie]; done)) ah (fun w3 ah _ U3 => ?_)
 refine Z.a 4 ah ?_
 replace hF := (hF.go0 U2).go1 U3 bZ
 replace TR := TR.aG U3 ab9
 replace ael := ael.aG U3 aau
 exact ⟨_, rfl, q5, l5, A5, c5, hq5, hi5, rfl, TR, ael, hw5, gA5.mono qF5, gC5.mono qF5, ha5, hF⟩
open Go Go.Sh Go.RowKit
theorem OY (b : Nat) (w : World) (h0 : w.cell? ⟨b, 0, none⟩ = some (.pointer (some ⟨b, 0, none⟩))) :
    Calls Tryz.prog 100 #[.pointer (some ⟨b, 0, none⟩)] w fun e w' => e = .returned (.tuple #[]) ∧ w' = w := by
 obtain ⟨j, hj, hjs⟩ : ∃ j, Tryz.prog.info? 108 = some j ∧ j.size = 2 := by
   have h : (Tryz.prog.info? 108).map (·.size) = some 2 := by kernel_rfl
   obtain ⟨j, hj, hjs⟩ := Option.map_eq_some_iff.1 h
   exact ⟨j, hj, hjs⟩
 go_enter Tryz.func100, Tryz.ntmps100
 go_wp2
 rw [Lib.run_neq_ptr_same w _ Tryz.underlying106 hj]
 go_wp2
 go_end0
 exact ⟨rfl, rfl⟩
theorem MV (b : Nat) (w : World) (h0 : w.cell? ⟨b, 0, none⟩ = some (.pointer none)) (hsh : w.shape? b = some (108, 2)) (hfz : w.frozen? ⟨b, 0, none⟩ = false) :
    Calls Tryz.prog 100 #[.pointer (some ⟨b, 0, none⟩)] w fun e w' => e = .returned (.tuple #[]) ∧ w' = w.setCell ⟨b, 0, none⟩ (.pointer (some ⟨b, 0, none⟩)) := by
 obtain ⟨j, hj, hjs⟩ : ∃ j, Tryz.prog.info? 108 = some j ∧ j.size = 2 := by
   have h : (Tryz.prog.info? 108).map (·.size) = some 2 := by kernel_rfl
   obtain ⟨j, hj, hjs⟩ := Option.map_eq_some_iff.1 h
   exact ⟨j, hj, hjs⟩
 go_enter Tryz.func100, Tryz.ntmps100
 go_wp2
 rw [Lib.run_to_unsafe w ⟨b, 0, none⟩ Tryz.underlying106 Tryz.underlying197 hj (by rw [hjs]; decide) hsh (Nat.zero_lt_succ 1)]
 simp only [Result.andThen]
 rw [Oper.upon_value]
 go_wp2
 rw [run_callFunc_extern Tryz.func143 (by kernel_rfl) (by kernel_rfl) (by kernel_rfl) (e := Extern.AbiNoEscape.same) (by kernel_rfl)]
 rw [Lib.run_noEscape]
 simp only [Result.andThen]
 rw [Oper.upon_value]
 go_wp2
 rw [Lib.run_from_unsafe w ⟨b, 0, none⟩ Tryz.underlying197 Tryz.underlying106 hj hsh (by kernel_rfl)]
 simp only [Result.andThen]
 rw [Oper.upon_value]
 go_wp2
 go_end0
 exact ⟨rfl, rfl⟩
def mD (B : Nat) (w : World) (b : Nat) (v : Value) (l : List Value) : Prop :=
  (∃ p, (p = .pointer none ∨ p = .pointer (some ⟨b, 0, none⟩)) ∧ w.heap[b]? = some (.cells #[p, v] 108 (0, 0))) ∧ Own B w 5 1 v l ∧ ∀ k, aH v k → k ≠ b
def Lp (b : Nat) (v : Value) : Nat → Prop := fun k => k = b ∨ aH v k
theorem mD.lt {B b : Nat} {w : World} {v : Value} {l : List Value} (h : mD B w b v l) : b < w.heap.size := by obtain ⟨⟨p, _, hb⟩, _⟩ := h; exact ak hb
theorem mD.ge {B b : Nat} {w : World} {v : Value} {l : List Value} (h : mD B w b v l) {k : Nat} (hk : aH v k) : B ≤ k := (h.2.1.ge hk).1
theorem mD.dY {S : Nat → Prop} {B b : Nat} {w w' : World} {v : Value} {l : List Value} (h : mD B w b v l) (u : aA S w w') (hs : ∀ k, Lp b v k → ¬ S k) : mD B w' b v l := by
  obtain ⟨⟨p, hp, hb⟩, ho, hn⟩ := h
  exact ⟨⟨p, hp, u.get hb (hs b (.inl rfl))⟩, ho.dY u (fun k hk => hs k (.inr hk)), hn⟩
theorem mD.ai {B b : Nat} {w w' : World} {v : Value} {l : List Value} (h : mD B w b v l) (u : aA no w w') : mD B w' b v l := h.dY u (fun _ _ => id)
theorem mD.aG {B b g : Nat} {w w' : World} {v : Value} {l : List Value} (h : mD B w b v l) (u : aA (· = g) w w') (hs : ∀ k, Lp b v k → k ≠ g) : mD B w' b v l := h.dY u hs
theorem mD.new {w : World} {b : Nat} (hb : w.heap[b]? = some (.cells #[.pointer none, .slice none 0 0] 108 (0, 0))) (B : Nat) : mD B w b (.slice none 0 0) [] :=
  ⟨⟨_, .inl rfl, hb⟩, Own.nil _ _ _ _, fun k hk => by cases hk⟩
theorem VT {w : World} {b o : Nat} {v : Value} : aA (· = b) w (w.setCell ⟨b, o, none⟩ v) :=
  ⟨rfl, rfl, rfl, by simp [World.setCell], fun k _ hs => by simp only [World.setCell, Array.getElem?_modify]; rw [if_neg (fun e => hs e.symm)]⟩
theorem VU {B b : Nat} {w : World} {v : Value} {l : List Value} (h : mD B w b v l) :
    Calls Tryz.prog 100 #[.pointer (some ⟨b, 0, none⟩)] w fun e w' => e = .returned (.tuple #[]) ∧ w'.heap[b]? = some (.cells #[.pointer (some ⟨b, 0, none⟩), v] 108 (0, 0)) ∧ w'.heap.size = w.heap.size ∧ aA (· = b) w w' := by
 obtain ⟨⟨p, rfl | rfl, hb⟩, _⟩ := h
 refine (MV b w (by simp [World.cell?, hb]) (by simp [World.shape?, hb]) (by simp [World.frozen?, hb])).mono ?_
 rintro e w' ⟨rfl, rfl⟩
 exact ⟨rfl, by simp [World.setCell, Array.getElem?_modify, hb], by simp [World.setCell], VT⟩
 refine (OY b w (by simp [World.cell?, hb])).mono ?_
 rintro e w' ⟨rfl, rfl⟩
 exact ⟨rfl, hb, rfl, Fr.refl _ _ _⟩
theorem strCells_eq (s : ByteArray) : Lib.strCells s = Lib.byteCells s.data.toList := by
  simp [Lib.strCells, Lib.byteCells]
theorem AB {B b : Nat} {s : ByteArray} {w : World} {v : Value} {l : List UInt8} (h : mD B w b v (Lib.byteCells l)) (hl : l.length ≤ 17592186044416) (hs : s.size ≤ 17592186044416) (hB : B ≤ w.heap.size) :
    Calls Tryz.prog 76 #[.pointer (some ⟨b, 0, none⟩), .string s] w fun e w' => ∃ x, e = .returned x ∧ ∃ v', mD B w' b v' (Lib.byteCells (l ++ s.data.toList)) ∧ aA (Lp b v) w w' := by
 refine F76.calls ?_
 unfold F76
 obtain ⟨_, ho, hn⟩ := id h
 refine aB (VU h) fun w1 ⟨h1, s1, u1⟩ => ?_
 refine dw ?_
 refine au (o9 (off := 1) (by kernel_rfl)) ?_
 refine au (kT (by kernel_rfl) h1 (by rfl)) ?_
 have ho1 := ho.aG u1 hn
 obtain ⟨n, hr⟩ := id ho1
 have hn1 : n = l.length := by have := hr.1; simp [Lib.byteCells] at this; omega
 subst hn1
 obtain ⟨i, hi, hi1, hi2, hi3⟩ : ∃ i, (Tryz.prog).info? 5 = some i ∧ i.zero = some (.int .u8 0) ∧ i.size = 1 ∧ i.bytes = 1 := by
   have h : (match (Tryz.prog).info? 5 with | some i => (match i.zero with | some (.int .u8 0) => true | _ => false) && i.size == 1 && i.bytes == 1 | none => false) = true := by kernel_rfl
   split at h
   · rename_i i hi
     simp only [Bool.and_eq_true, beq_iff_eq] at h
     refine ⟨i, hi, ?_, h.1.2, h.2⟩
     have h2 := h.1.1
     split at h2
     · assumption
     · cases h2
   · cases h
 obtain ⟨v3, w3, r1, r2, r3, _⟩ := Lib.run_append_own_string (P := Tryz.prog) w1 B 24 9 24 5 i Tryz.underlying24 Tryz.underlying9 hi hi1 hi2 hi3 v l.length _ hr s (by simp only [maxLen]; omega) (by omega) (by omega)
 refine au r1 ?_
 have u3 : aA (aH v) w1 w3 := ⟨r3.os, r3.tape, r3.output, r3.size, fun k hk hs => r3.block k hk (fun e => hs e)⟩
 have N3 : Own B w3 5 1 v3 (Lib.byteCells (l ++ s.data.toList)) := ⟨_, by rw [strCells_eq] at r2; simpa [Lib.byteCells] using r2⟩
 have h13 := u3.get h1 (fun hk => hn b hk rfl)
 refine dw ?_
 refine au (o9 (off := 1) (by kernel_rfl)) ?_
 have hlt := h.lt
 have hn3 : ∀ k, aH v3 k → k ≠ b := by
   intro k hk e
   subst e
   rcases h13' : N3 with ⟨n, _, h' | ⟨g, cap, cur, hv, _, hg, _⟩⟩
   · rw [h'.1] at hk; cases hk
   · rw [hv] at hk
     cases hk
     rw [h13] at hg
     have := (Option.some.inj hg)
     cases this
 have hsz : (Value.cells v3) = #[v3] ∧ v3.oneCell' = true := by
   rcases N3 with ⟨n, _, h' | ⟨g, cap, cur, hv, _⟩⟩
   · rw [h'.1]; exact ⟨rfl, rfl⟩
   · rw [hv]; exact ⟨rfl, rfl⟩
 refine mQ (by kernel_rfl) hsz.1 hsz.2 h13 (by simp) rfl (fun w4 h4 s4 u4 => ?_)
 refine au (ahe (by kernel_rfl) _) ?_
 refine ⟨_, rfl, v3, ⟨⟨_, .inr rfl, h4⟩, N3.aG u4 hn3, hn3⟩, ?_⟩
 have a := (Fr.refl (Lp b v) _ w).go u1 (fun i _ h => .inl h)
 have a := a.go u3 (fun i _ h => .inr h)
 exact a.go u4 (fun i _ h => .inl h)
theorem mD.apart {B b g : Nat} {w : World} {v : Value} {l : List Value} (h : mD B w b v l) (e : g = w.heap.size) : ∀ k, Lp b v k → k ≠ g := fun k hk he => by
  rcases hk with hk | hk
  · have := h.lt; omega
  · have := (h.2.1.ge hk).2; omega
theorem mD.iZ {B b g : Nat} {w : World} {v : Value} {l : List Value} {o : Obj} (h : mD B w b v l) (hl : w.heap[g]? = some o) (lp : Bc o = true) : ∀ k, Lp b v k → k ≠ g := fun k hk he => by
  rcases hk with hk | hk
  · obtain ⟨⟨p, _, hb⟩, _⟩ := h
    exact SH hb hl lp (by omega)
  · exact Own.iZ h.2.1 hl lp k hk he
theorem mD.lq {B b g : Nat} {w : World} {v : Value} {l : List Value} {d : Option (List Deferred)} (h : mD B w b v l) (hl : w.heap[g]? = some (.deferred d)) : ∀ k, Lp b v k → k ≠ g := fun k hk he => by
  rcases hk with hk | hk
  · obtain ⟨⟨p, _, hb⟩, _⟩ := h
    exact KE hb hl (by omega)
  · exact Own.lq h.2.1 hl k hk he
theorem Qk (w : World) (o : Obj) : aA no w (w.alloc o) := ⟨rfl, rfl, rfl, by simp, fun k hk _ => heap_alloc_old w o hk⟩
theorem Yr (w : World) (g n : Nat) : aA (fun k => some k = some g) w (w.freeze ⟨g, 0, none⟩ n) := by
  unfold World.freeze
  split
  · exact Fr.refl _ _ _
  · exact ⟨rfl, rfl, rfl, by simp, fun k hk hs => by
      simp only [Array.getElem?_modify]
      rw [if_neg (fun e => hs (by rw [← e]))]⟩
theorem abv {B b : Nat} {w : World} {v : Value} {l : List UInt8} (h : mD B w b v (Lib.byteCells l)) (hl : l.length ≤ 17592186044416) :
    Calls Tryz.prog 60 #[.pointer (some ⟨b, 0, none⟩)] w fun e w' => e = .returned (.string ⟨l.toArray⟩) ∧ aA (aH v) w w' := by
 refine F60.calls ?_
 unfold F60
 obtain ⟨⟨p, hp, hb⟩, ho, hn⟩ := h
 have hF : aA (aH v) w w := Fr.refl _ _ _
 refine dK (S := aH v) (fun w1 U1 => ?_)
 have hb1 := U1.af hb
 have ho1 := ho.ai U1
 refine eG ?_
 refine bI (fun w' hw' => o9 (off := 1) (by kernel_rfl)) ?_
 refine bI (fun w' hw' => kT (by kernel_rfl) (by exact (Fr.jk hw').af hb1) (by rfl)) ?_
 refine eG ?_
 refine bI (fun w' hw' => o9 (off := 1) (by kernel_rfl)) ?_
 refine bI (fun w' hw' => kT (by kernel_rfl) (by exact hw'.get hb1 (fun hk => hn b hk rfl)) (by rfl)) ?_
 obtain ⟨n, hln, hor⟩ := id ho1
 rw [Lib.byteCells_length, Nat.mul_one] at hln
 subst hln
 rcases hor with ⟨rfl, h0⟩ | ⟨g, cap, cur, rfl, hbg, hg, hnc, hcm, hcs, htk⟩
 have hl0 : l = [] := List.length_eq_zero_iff.1 h0
 subst hl0
 refine bI (fun w' hw' => gK (by kernel_rfl) _ _ _) ?_
 refine aI (fun w2 U2 => ?_)
 refine jo (au (Lib.run_unsafeSliceData_nil _ _ _ _ _) ⟨Fr.refl _ _ _, ?_⟩)
 refine aI (fun w3 U3 => ?_)
 refine au (Lib.run_unsafeString_none _ _ _ _ _) ?_
 refine aI (fun w4 U4 => ?_)
 replace hF := hF.go0 U1
 exact ⟨rfl, ((hF.go0 U2).go0 U3).go0 U4⟩
 by_cases hl0 : l = []
 subst hl0
 refine bI (fun w' hw' => gK (by kernel_rfl) _ _ _) ?_
 refine aI (fun w2 U2 => ?_)
 by_cases hc0 : cap = 0
 subst hc0
 have hg2 := U2.af hg
 refine jo (au (Lib.run_unsafeSliceData_zero _ _ _ 5 (by kernel_rfl) ⟨g, 0, none⟩ _ (5, cur.size) (by simp [World.shape?, hg2])) ⟨(Qk _ _).any, ?_⟩)
 refine aI (fun w3 U3 => ?_)
 refine au (Lib.run_unsafeString_none _ _ _ _ _) ?_
 refine aI (fun w4 U4 => ?_)
 replace hF := hF.go0 U1
 exact ⟨rfl, (((hF.go0 U2).go0 (Qk _ _)).go0 U3).go0 U4⟩
 refine jo (au (Lib.run_unsafeSliceData_row _ _ _ _ _ _ hc0) ⟨Fr.refl _ _ _, ?_⟩)
 refine aI (fun w3 U3 => ?_)
 refine au (Lib.run_unsafeString_none _ _ _ _ _) ?_
 refine aI (fun w4 U4 => ?_)
 replace hF := hF.go0 U1
 exact ⟨rfl, ((hF.go0 U2).go0 U3).go0 U4⟩
 have hlp : 0 < l.length := List.length_pos_iff.2 hl0
 refine bI (fun w' hw' => gK (by kernel_rfl) _ _ _) ?_
 refine aI (fun w2 U2 => ?_)
 refine jo (au (Lib.run_unsafeSliceData_row _ _ _ _ _ _ (by omega)) ⟨Fr.refl _ _ _, ?_⟩)
 refine aI (fun w3 U3 => ?_)
 have hg3 := U3.af (U2.af hg)
 have ho3 := (ho1.ai U2).ai U3
 refine au (Lib.run_unsafeString_row w3 _ _ _ 5 (by kernel_rfl) (by kernel_rfl) g cur.size (by simp [World.shape?, hg3]) l hl0 (by omega) (by omega) (fun j x hx => ?_)) ?_
 obtain ⟨n', _, hor'⟩ := ho3
 rcases hor' with ⟨hv, _⟩ | ⟨g', cap', cur', hv, _, hg', _, _, _, htk'⟩
 cases hv
 cases hv
 have e : (⟨g, 0, none⟩ : Addr).add j = ⟨g, j, none⟩ := by
   unfold Addr.add; split
   · rename_i h; subst h; rfl
   · simp
 have h2 : (Lib.byteCells l)[j]? = some (.int .u8 x.toNat) := by simp [Lib.byteCells, hx]
 rw [← htk', List.getElem?_take] at h2
 split at h2
 rw [e, Lib.cell_of_heap hg']; simpa using h2
 cases h2
 refine aI (fun w4 U4 => ?_)
 replace hF := hF.go0 U1
 exact ⟨rfl, (((hF.go0 U2).go0 U3).go (Yr _ _ _) (fun i _ h => h)).go0 U4⟩
theorem aca {n : Int} {w : World} {gT : Nat} {eT : TypeId} {fT : Nat × Nat} (hgT : Tryz.prog.globalNamed "internal/strconv.uint64pow10" = some gT) (dB : w.heap[gT]? = some (.cells Gs.xR eT fT)) (hn : -9223372036854775808 ≤ n ∧ n ≤ 9223372036854775807) :
    oX 77 #[Z.i n] w fun e w' => e = .returned (.string (Gs.yL n)) ∧ aA no w w' :=
  (Go.Proofs.Tryz.strconv_Itoa n hn.1 hn.2 w (ajV hgT dB)).mono fun e w' ⟨h, k, os, hw⟩ => ⟨h, by
    subst hw
    exact Fr.of_below (Lib.below_grow w.heap.size w (Nat.le_refl _) k os)⟩
theorem acb {page : Int} {jV cur : Int} {al : Bool} {A : Option Addr} {n cp : Nat} {l : List Gs.It} {gT : Nat} {eT : TypeId} {fT : Nat × Nat} {w : World} (rd : Rd w A (rows Gs.ie l)) (hn : n = l.length) (jC : Gs.Cl w l) (hgT : Tryz.prog.globalNamed "internal/strconv.uint64pow10" = some gT) (dB : w.heap[gT]? = some (.cells Gs.xR eT fT)) (ha : 0 ≤ jV ∧ jV ≤ 255) (hcur : -9223372036854775808 ≤ cur ∧ cur ≤ 9223372036854775807) (hiw : Gs.Iw l) (hat : ∀ x ∈ l, -9223372036854775808 ≤ x.at' ∧ x.at' ≤ 9223372036854775807) (hbd : n ≤ 100000) (hcb : ∀ x ∈ l, x.cs.length ≤ 100000) :
    oX 38 #[Z.i page, .agg #[Z.u jV, .bool al, Z.i cur, .slice A n cp]] w fun e w' => e = .returned (.string ⟨(Gs.UE page ⟨jV, al, cur, Gs.its l⟩).toArray⟩) ∧ aA no w w' := by
 refine F38.calls ?_
 unfold F38
 have hgl := ak dB
 have hns := Gs.NU ha
 have his := Gs.Gy hcur
 have hds := Gs.aem ha hcur
 have h1s := Gs.XF
 have h2s := Gs.XG
 have h3s := Gs.QD
 have aav := rd.lt
 have UF := jC.lt
 have hF : aA no w w := Fr.refl _ _ _
 refine Z.x (#[Z.u jV, .bool al, Z.i cur, .slice A n cp]) (fun b1 w1 e1 ah _ U1 => ?_)
 refine Z.f 1 ?_
 refine pW (kT (by kernel_rfl) ah (by rfl)) (fun h2 => ?_) (fun h2 => ?_)
 refine aK ?_
 refine Z.f 0 ?_
 refine Z.l ah ?_
 refine aB (Fb ha) (fun w3 U3 => ?_)
 replace hF := (hF.go0 U1).go0 U3
 exact ⟨congrArg (fun s => Ending.returned (.string s)) ((Gs.str_eq _).trans (by rw [Gs.ajW (show al = true from by assumption)])), hF⟩
 refine aF ?_
 refine Z.n (#[.pointer none, .slice none 0 0]) (fun b5 w5 e5 cO _ U5 => ?_)
 replace rd := rd.ai U1
 have LM := rd.apart e5
 replace jC := jC.ai U1
 have Jg := jC.apart e5
 replace dB := U1.af dB
 have Gz : gT ≠ b5 := by have := ak dB; omega
 have gU : b1 ≠ b5 := by have := ak ah; omega
 replace hF := hF.go0 U1
 have iG : w.heap.size ≤ b5 := by have := hF.size; omega
 have bld5 : mD w.heap.size _ b5 (.slice none 0 0) (Lib.byteCells []) := mD.new cO _
 clear cO e5
 refine dK (S := (· = b5)) (fun w6 U6 => ?_)
 refine Z.g 0 ?_
 replace ah := U6.af (U5.af ah)
 refine bI (fun w' hw' => by have ah := hw'.aj ah gU; exact (kT (by kernel_rfl) ah (by rfl))) ?_
 refine fM (fun w' hw' => Fb ha) ?_
 refine bI (fun w' hw' => (Px (by omega))) ?_
 refine Z.g 2 ?_
 refine bI (fun w' hw' => by have ah := hw'.aj ah gU; exact (kT (by kernel_rfl) ah (by rfl))) ?_
 replace dB := U6.af (U5.af dB)
 refine fM (fun w' hw' => by have dB := hw'.aj dB Gz; exact aca hgT dB hcur) ?_
 refine bI (fun w' hw' => (Px (by (simp only [Gs.vZ]; omega)))) ?_
 refine aI (fun nT bJ => ?_)
 replace hF := ((hF.go0 U5).go0 U6).go0 bJ
 replace bld5 := (bld5.ai U6).ai bJ
 refine aN (AB bld5 (Nat.zero_le _) (by (simp only [Gs.vZ]; omega)) (by have := hF.size; omega)) (fun x12 w12 D12 => ?_)
 obtain ⟨vb12, N12, df⟩ := D12
 have bld5_o := bld5
 replace rd := ((rd.ai U5).ai U6).ai bJ
 replace rd := rd.dY df (LM.elim .inl fun h1 => aav.imp_right fun h2 k hk hs => Or.elim hs (fun e => absurd e (h1 k hk)) (fun h => by have := h2 k hk; have := mD.ge bld5_o h; omega))
 replace jC := ((jC.ai U5).ai U6).ai bJ
 replace jC := jC.dY df (Jg.elim .inl fun h1 => UF.imp_right fun h2 k hk hs => Or.elim hs (fun e => absurd e (h1 k hk)) (fun h => by have := h2 k hk; have := mD.ge bld5_o h; omega))
 replace dB := bJ.af dB
 replace dB := df.get dB (fun hs => Or.elim hs (fun e => absurd e Gz) (fun h => by (have := mD.ge bld5_o h; omega)))
 replace ah := bJ.af ah
 replace ah := df.get ah (fun hs => Or.elim hs (fun e => absurd e gU) (fun h => Own.aS bld5_o.2.1 ah (by decide) _ h rfl))
 replace hF := hF.go df (fun i h hs => Or.elim hs (fun e => by have := iG; omega) (fun h => by have := mD.ge bld5_o h; omega))
 replace bld5 := N12
 clear bld5_o
 refine aI (fun uX dE => ?_)
 refine bP (fun g w' => ∃ (v5 : Value), (mD w.heap.size w' b5 v5 (Lib.byteCells ((Gs.KQ jV cur).data.toList ++ (Gs.its l).flatMap (Gs.DZ page)))) ∧ (aA no w w')) (fun J1 hJ1 => ?_) (fun gJ1 jK hI => ?_)
 refine Z.f 3 ?_
 replace ah := dE.af ah
 refine Z.l ah ?_
 refine au (gK (by kernel_rfl) _ _ _) ?_
 refine eF (fun g w' => ∃ (k : Nat) (v5 : Value), (g 28 = Z.i (k : Int)) ∧ (k ≤ l.length) ∧ (mD w.heap.size w' b5 v5 (Lib.byteCells ((Gs.KQ jV cur).data.toList ++ (Gs.its (l.take k)).flatMap (Gs.DZ page)))) ∧ (Z.h w' b1 #[Z.u jV, .bool al, Z.i cur, .slice A n cp] 48) ∧ (Rd w' A (rows Gs.ie l)) ∧ (Gs.Cl w' l) ∧ (w'.heap[gT]? = some (.cells Gs.xR eT fT)) ∧ (aA no w w')) (fun g w' => l.length - (RowKit.intOf (g 28)).toNat) ?_ (fun g2 qI hI => ?_)
 replace rd := rd.ai dE
 replace jC := jC.ai dE
 replace bld5 := bld5.ai dE
 replace dB := dE.af dB
 replace hF := hF.go0 dE
 exact ⟨0, _, (by rfl), Nat.zero_le _, (by simpa [Gs.KQ, Gs.its] using bld5), ah, rd, jC, dB, hF⟩
 replace rd := rd.ai dE
 replace jC := jC.ai dE
 replace bld5 := bld5.ai dE
 replace dB := dE.af dB
 replace hF := hF.go0 dE
 obtain ⟨k, v5, g28, hk, bld5, ah, rd, jC, dB, hF⟩ := hI
 rw [g28]
 have hfl := Gs.UG (page := page) hiw hat hcb k
 refine az (lss _ _ _ _) (fun h14 => ?_) (fun h14 => ?_)
 refine aK ?_
 refine bP (fun g w' => ∃ (v5 : Value), (mD w.heap.size w' b5 v5 (Lib.byteCells ((Gs.KQ jV cur).data.toList ++ (Gs.its (l.take (k + 1))).flatMap (Gs.DZ page)))) ∧ (Z.h w' b1 #[Z.u jV, .bool al, Z.i cur, .slice A n cp] 48) ∧ (Rd w' A (rows Gs.ie l)) ∧ (Gs.Cl w' l) ∧ (w'.heap[gT]? = some (.cells Gs.xR eT fT)) ∧ (aA no w w')) (fun J3 hJ3 => ?_) (fun gJ3 KN hI => ?_)
 refine uh Gs.JY (by kernel_rfl) (by kernel_rfl) rd (by assumption) (by omega) (by omega) (fun x15 BR => ?_)
 simp only [Int.toNat_natCast] at BR
 refine Z.n (#[Z.i 0, .slice none 0 0]) (fun b16 w16 e16 jb _ bQ => ?_)
 have xx := bld5.apart e16
 have Ad : b1 ≠ b16 := by have := ak ah; omega
 have Jh := rd.apart e16
 have GG := jC.apart e16
 have acd : gT ≠ b16 := by have := ak dB; omega
 have IU : w.heap.size ≤ b16 := by have := hF.size; omega
 refine Z.t 2 ((Gs.ie x15).toArray) (by (simp [Value.cells, Value.oneCell', Gs.cv, Gs.ie]; done)) jb (fun uY jb _ dh => ?_)
 refine Z.f 0 ?_
 refine Z.l jb ?_
 replace dB := dh.aj (bQ.af dB) acd
 refine aB (aca hgT dB (hat _ (List.mem_of_getElem? BR))) (fun xh dO => ?_)
 refine bP (fun g w' => (g 8 = .string (Gs.QF x15.at')) ∧ (mD w.heap.size w' b5 v5 (Lib.byteCells ((Gs.KQ jV cur).data.toList ++ (Gs.its (l.take k)).flatMap (Gs.DZ page)))) ∧ (Z.h w' b1 #[Z.u jV, .bool al, Z.i cur, .slice A n cp] 48) ∧ (Z.h w' b16 ((Gs.ie x15).toArray) 54) ∧ (Rd w' A (rows Gs.ie l)) ∧ (Gs.Cl w' l) ∧ (w'.heap[gT]? = some (.cells Gs.xR eT fT)) ∧ (b16 ≠ b5) ∧ (aA no w w')) (fun J4 hJ4 => ?_) (fun gJ4 wJ4 hI => ?_)
 refine Z.f 0 ?_
 replace jb := dO.af jb
 refine Z.l jb ?_
 refine az (cu _ _ _ _ _) (fun h19 => ?_) (fun h19 => ?_)
 refine aK ?_
 refine hJ4 _ _ ?_
 replace bld5 := ((bld5.ai bQ).aG dh xx).ai dO
 replace rd := ((rd.ai bQ).aG dh Jh).ai dO
 replace jC := ((jC.ai bQ).aG dh GG).ai dO
 replace ah := dO.af (dh.aj (bQ.af ah) Ad)
 replace hF := ((hF.go0 bQ).go1 dh IU).go0 dO
 replace dB := dO.af dB
 exact ⟨(by (rw [Gs.QF, if_pos (by assumption)]; rfl)), bld5, ah, jb, rd, jC, dB, (fun e => xx _ (.inl rfl) e.symm), hF⟩
 refine aF ?_
 refine hJ4 _ _ ?_
 replace bld5 := ((bld5.ai bQ).aG dh xx).ai dO
 replace rd := ((rd.ai bQ).aG dh Jh).ai dO
 replace jC := ((jC.ai bQ).aG dh GG).ai dO
 replace ah := dO.af (dh.aj (bQ.af ah) Ad)
 replace hF := ((hF.go0 bQ).go1 dh IU).go0 dO
 replace dB := dO.af dB
 exact ⟨(by (rw [Gs.QF, if_neg (by assumption)]; rfl)), bld5, ah, jb, rd, jC, dB, (fun e => xx _ (.inl rfl) e.symm), hF⟩
 replace bld5 := ((bld5.ai bQ).aG dh xx).ai dO
 replace rd := ((rd.ai bQ).aG dh Jh).ai dO
 replace jC := ((jC.ai bQ).aG dh GG).ai dO
 replace ah := dO.af (dh.aj (bQ.af ah) Ad)
 replace hF := ((hF.go0 bQ).go1 dh IU).go0 dO
 replace dB := dO.af dB
 replace jb := dO.af jb
 obtain ⟨g8, bld5, ah, jb, rd, jC, dB, hne57, hF⟩ := hI
 rw [g8]
 have hps := Gs.UH (hat _ (List.mem_of_getElem? BR))
 refine au (Px (by omega)) ?_
 refine au (Px (by (simp only [Gs.vZ]; omega))) ?_
 refine aN (AB bld5 (by simp only [List.length_append, Gs.Ea, Gs.vZ]; omega) (by (simp only [Gs.vZ]; omega)) (by have := hF.size; omega)) (fun x22 Hy D22 => ?_)
 obtain ⟨vb22, N22, gY⟩ := D22
 have bld5_o := bld5
 replace rd := rd.dY gY (LM.elim .inl fun h1 => aav.imp_right fun h2 k hk hs => Or.elim hs (fun e => absurd e (h1 k hk)) (fun h => by have := h2 k hk; have := mD.ge bld5_o h; omega))
 replace jC := jC.dY gY (Jg.elim .inl fun h1 => UF.imp_right fun h2 k hk hs => Or.elim hs (fun e => absurd e (h1 k hk)) (fun h => by have := h2 k hk; have := mD.ge bld5_o h; omega))
 replace ah := gY.get ah (fun hs => Or.elim hs (fun e => absurd e gU) (fun h => Own.aS bld5_o.2.1 ah (by decide) _ h rfl))
 replace jb := gY.get jb (fun hs => Or.elim hs (fun e => absurd e (by omega)) (fun h => Own.aS bld5_o.2.1 jb (by decide) _ h rfl))
 replace dB := gY.get dB (fun hs => Or.elim hs (fun e => absurd e Gz) (fun h => by (have := mD.ge bld5_o h; omega)))
 replace hF := hF.go gY (fun i h hs => Or.elim hs (fun e => by have := iG; omega) (fun h => by have := mD.ge bld5_o h; omega))
 replace bld5 := N22
 clear bld5_o
 refine Z.f 1 ?_
 refine Z.l jb ?_
 refine au (gK (by kernel_rfl) _ _ _) ?_
 refine eF (fun g w' => ∃ (m : Nat) (v5 : Value), (g 45 = Z.i (m : Nat)) ∧ (m ≤ (x15).cs.length) ∧ (mD w.heap.size w' b5 v5 (Lib.byteCells ((Gs.KQ jV cur).data.toList ++ (Gs.its (l.take k)).flatMap (Gs.DZ page) ++ (⟨#[32]⟩ ++ Gs.QF x15.at' ++ ⟨#[61]⟩ : ByteArray).data.toList ++ ((x15).cs.take m).flatMap (Gs.NV page)))) ∧ (Z.h w' b1 #[Z.u jV, .bool al, Z.i cur, .slice A n cp] 48) ∧ (Z.h w' b16 ((Gs.ie x15).toArray) 54) ∧ (Rd w' A (rows Gs.ie l)) ∧ (Gs.Cl w' l) ∧ (w'.heap[gT]? = some (.cells Gs.xR eT fT)) ∧ (aA no w w')) (fun g w' => (x15).cs.length - (RowKit.intOf (g 45)).toNat) ?_ (fun g5 wl5 hI => ?_)
 exact ⟨0, _, rfl, (by omega), (by simpa using bld5), ah, jb, rd, jC, dB, hF⟩
 obtain ⟨m, v5, g45, hm, bld5, ah, jb, rd, jC, dB, hF⟩ := hI
 rw [g45]
 have hsl := Gs.ahM (page := page) (xs := (x15).cs) (k := m) (hiw _ (List.mem_of_getElem? BR))
 have hcl := hcb _ (List.mem_of_getElem? BR)
 refine az (lss _ _ _ _) (fun h23 => ?_) (fun h23 => ?_)
 refine aK ?_
 refine uh Gs.wU (by kernel_rfl) (by kernel_rfl) (jC.get BR) (by rfl) (by omega) (by omega) (fun x24 hx24 => ?_)
 simp only [Int.toNat_natCast] at hx24
 refine Z.n ((Gs.cv Gs.zc).toArray) (fun b25 Hz e25 aaw _ gz => ?_)
 have Wx := bld5.apart e25
 have ace : b1 ≠ b25 := by have := ak ah; omega
 have aax : b16 ≠ b25 := by have := ak jb; omega
 have acf := rd.apart e25
 have aay := jC.apart e25
 have acg : gT ≠ b25 := by have := ak dB; omega
 have ajX : w.heap.size ≤ b25 := by have := hF.size; omega
 refine Z.t 5 ((Gs.cv x24).toArray) (by (simp [Value.cells, Value.oneCell', Gs.cv, Gs.ie]; done)) aaw (fun MX aaw _ je => ?_)
 refine Z.b 5 ((Gs.cv x24).toArray) aaw ?_
 refine aB (Pv (hiw _ (List.mem_of_getElem? BR) _ (List.mem_of_getElem? hx24))) (fun IV gB => ?_)
 replace bld5 := ((bld5.ai gz).aG je Wx).ai gB
 replace hF := ((hF.go0 gz).go1 je ajX).go0 gB
 refine aN (AB bld5 (by simp only [List.length_append, Gs.Ea, Gs.vZ]; omega) (by have := Gs.aen (page := page) (hiw _ (List.mem_of_getElem? BR) _ (List.mem_of_getElem? hx24)); omega) (by have := hF.size; omega)) (fun x28 Xh D28 => ?_)
 obtain ⟨vb28, N28, jO⟩ := D28
 have bld5_o := bld5
 replace rd := ((rd.ai gz).aG je acf).ai gB
 replace rd := rd.dY jO (LM.elim .inl fun h1 => aav.imp_right fun h2 k hk hs => Or.elim hs (fun e => absurd e (h1 k hk)) (fun h => by have := h2 k hk; have := mD.ge bld5_o h; omega))
 replace jC := ((jC.ai gz).aG je aay).ai gB
 replace jC := jC.dY jO (Jg.elim .inl fun h1 => UF.imp_right fun h2 k hk hs => Or.elim hs (fun e => absurd e (h1 k hk)) (fun h => by have := h2 k hk; have := mD.ge bld5_o h; omega))
 replace ah := gB.af (je.aj (gz.af ah) ace)
 replace ah := jO.get ah (fun hs => Or.elim hs (fun e => absurd e gU) (fun h => Own.aS bld5_o.2.1 ah (by decide) _ h rfl))
 replace jb := gB.af (je.aj (gz.af jb) aax)
 replace jb := jO.get jb (fun hs => Or.elim hs (fun e => absurd e (by omega)) (fun h => Own.aS bld5_o.2.1 jb (by decide) _ h rfl))
 replace dB := gB.af (je.aj (gz.af dB) acg)
 replace dB := jO.get dB (fun hs => Or.elim hs (fun e => absurd e Gz) (fun h => by (have := mD.ge bld5_o h; omega)))
 replace hF := hF.go jO (fun i h hs => Or.elim hs (fun e => by have := iG; omega) (fun h => by have := mD.ge bld5_o h; omega))
 replace bld5 := N28
 clear bld5_o
 refine au (dL _ (by omega)) ?_
 exact ⟨⟨m + 1, _, rfl, (by omega), (by rw [Gs.ach hx24, ← List.append_assoc]; exact bld5), ah, jb, rd, jC, dB, hF⟩, cnt_lt (by rfl) rfl (by omega)⟩
 refine aF ?_
 refine hJ3 _ _ ?_
 exact ⟨_, (by rw [Gs.ajY BR, ← List.append_assoc, ← List.append_assoc]; rw [List.take_of_length_le (l := (x15).cs) (by omega)] at bld5; exact bld5), ah, rd, jC, dB, hF⟩
 obtain ⟨v5, bld5, ah, rd, jC, dB, hF⟩ := hI
 refine au (dL _ (by omega)) ?_
 exact ⟨⟨k + 1, _, (by rfl), by omega, bld5, ah, rd, jC, dB, hF⟩, cnt_lt (by rfl) rfl (by omega)⟩
 refine aF ?_
 refine hJ1 _ _ ?_
 exact ⟨_, (by rw [List.take_of_length_le (by omega)] at bld5; exact bld5), hF⟩
 replace bld5 := bld5.ai dE
 replace hF := hF.go0 dE
 obtain ⟨v5, bld5, hF⟩ := hI
 have hfl := Gs.UG (page := page) hiw hat hcb l.length
 rw [List.take_length] at hfl
 refine aB (abv bld5 (by simp only [List.length_append, Gs.Ea]; omega)) (fun Xd kM => ?_)
 replace hF := hF.go kM (fun i h hs => by have := mD.ge bld5 hs; omega)
 exact ⟨by rw [Gs.ajZ (show al = false from by assumption)], hF⟩
end Go.Proofs.YtjdoakbadehicaaGreatDoor
end
section
namespace Gs
open Go Go.Sh
def aI1 : Inb := ⟨125, false, 2, [(1, [⟨193, false, false, 0, 0⟩])]⟩
theorem aj0 : wS [125, 64, 194, 17, 64, 193, 193] = .ok aI1 := by
 rw [aj1]
 have h : jR [17, 64, 193, 193] = .ok [(1, [⟨193, false, false, 0, 0⟩])] := (UI (n := 6) (xs := [(1, [⟨193, false, false, 0, 0⟩])]) (by rfl)).1
 rw [h]; rfl
theorem amj : UE 37 aI1 = [69, 78, 84, 69, 82, 32, 64, 50, 32, 49, 61, 65] := by decide +kernel
theorem acj {l : List It} {L : List (Int × List Cell)} (h : its l = L) {p : Int → List Cell → Prop} (hp : ∀ y ∈ L, p y.1 y.2) : ∀ x ∈ l, p x.at' x.cs := fun x hx => hp (x.at', x.cs) (by rw [← h]; exact List.mem_map.2 ⟨x, hx, rfl⟩)
end Gs
end
section
namespace Go.Proofs.YtjdoakbadehicaaGreatDoor
open Go Go.Sh
set_option maxRecDepth 100000
set_option maxHeartbeats 2000000 in
theorem uB {gT : Nat} {eT : TypeId} {fT : Nat × Nat} {w : World} (hgT : Tryz.prog.globalNamed "internal/strconv.uint64pow10" = some gT) (dB : w.heap[gT]? = some (.cells Gs.xR eT fT))  :
    oX 8 #[] w fun e w' => e = .returned (.bool true) ∧ aA no w w' := by
 refine F8.calls ?_
 unfold F8
 have hgl := ak dB
 have hF : aA no w w := Fr.refl _ _ _
 refine au (bG (l := [(0, 1), (1, 1)]) (z := #[Z.i 0, Z.i 0]) (by kernel_rfl) (by (simp [eH, splice, fU, Value.cells, Gs.cv, Gs.fv, Gs.ie]; rfl))) ?_
 refine aN (ww (r := 1) (c := 6) (by decide)) (fun v1 w1 D1 => ?_)
 obtain ⟨bp, gp, rfl, gbp, ag, ae, U1⟩ := D1
 rw [show (Gs.aZ 1 6).toNat = 6 by decide] at ag ae
 have zM : gT ≠ bp := by have := ak dB; omega
 have qo : w.heap.size ≤ bp := by have := hF.size; omega
 have FM : ¬ aH _ gT := fun h => by have := (Own.ge ae h).1; have := ak dB; omega
 replace ae := ae.mono (B' := w.heap.size) hF.size
 refine Z.e ?_
 refine Z.e ?_
 refine au (v := .bool false) (ae6 (e := 91) (by kernel_rfl)) ?_
 refine aF ?_
 refine au (bG (l := [(0, 1), (1, 1), (2, 1), (3, 1), (4, 1)]) (z := #[Z.u 0, .bool false, .bool false, Z.u 0, Z.u 0]) (cs := Gs.cv ⟨0, false, true, 0, 0⟩) (by kernel_rfl) (by rfl)) ?_
 refine aN (jv ag ae (by rfl) (i := 0) (x := (⟨0, false, true, 0, 0⟩ : Gs.Cell))) (fun v3 w3 D3 => ?_)
 obtain ⟨rfl, N3, U3⟩ := D3
 have aJ := ae
 replace dB := U1.af dB
 replace dB := U3.get dB FM
 replace ag := U3.get ag (fun h => Own.aS aJ ag (by decide) _ h rfl)
 replace ae := N3
 replace hF := hF.go0 U1
 replace hF := hF.go U3 (fun i h hs => by (have := (Own.ge aJ hs).1; omega))
 clear aJ
 rw [show Gs.gV (List.replicate 6 Gs.zc) 0 (⟨0, false, true, 0, 0⟩ : Gs.Cell) = ([⟨0, false, true, 0, 0⟩, Gs.zc, Gs.zc, Gs.zc, Gs.zc, Gs.zc] : List Gs.Cell) by decide +kernel] at ae
 refine aN (qZ ag ae (by rfl) (i := 1)) (fun v4 w4 D4 => ?_)
 obtain ⟨rfl, N4, U4⟩ := D4
 replace ae := ae.aG U4 (Own.aS ae (by assumption) (by decide))
 replace ag := N4
 rw [if_pos (by decide)] at ag
 refine aN (Sl ag ae (by rfl) (x := 193) (by decide) (by decide) (by decide) (by unfold Gs.jh Gs.Cw; decide : Gs.jh ([⟨0, false, true, 0, 0⟩, Gs.zc, Gs.zc, Gs.zc, Gs.zc, Gs.zc] : List Gs.Cell)) (by decide) (by decide +kernel) (by decide +kernel) (by decide +kernel) (by decide +kernel)) (fun v5 w5 D5 => ?_)
 obtain ⟨rfl, M5, N5, U5⟩ := D5
 have aJ := ae
 replace ae := N5
 replace dB := U4.aj dB zM
 replace dB := U5.get dB (fun hs => Or.elim (show aH _ _ ∨ _ = _ from hs) FM (fun hb => absurd hb zM))
 replace ag := M5
 replace hF := hF.go1 U4 qo
 replace hF := hF.go U5 (fun i h hs => Or.elim (show aH _ _ ∨ _ = _ from hs) (fun hs => by (have := (Own.ge aJ hs).1; omega)) (fun hb => by (subst hb; omega)))
 clear aJ
 rw [show Gs.lV (Gs.gV ([⟨0, false, true, 0, 0⟩, Gs.zc, Gs.zc, Gs.zc, Gs.zc, Gs.zc] : List Gs.Cell) 1 ⟨193, false, false, (Gs.bK ([⟨0, false, true, 0, 0⟩, Gs.zc, Gs.zc, Gs.zc, Gs.zc, Gs.zc] : List Gs.Cell) 1).l, (Gs.bK ([⟨0, false, true, 0, 0⟩, Gs.zc, Gs.zc, Gs.zc, Gs.zc, Gs.zc] : List Gs.Cell) 1).c⟩) 1 = ([⟨1, false, true, 0, 0⟩, ⟨193, false, false, 0, 0⟩, Gs.zc, Gs.zc, Gs.zc, Gs.zc] : List Gs.Cell) by decide +kernel] at ae
 rw [show ((1 : Int) + 1) % ((6 : Nat) : Int) = 2 by decide] at ag
 refine aN (Q4 ag ae (by rfl) (x := 125) (by decide) (by decide) (by decide) (by unfold Gs.jh Gs.Cw; decide : Gs.jh ([⟨1, false, true, 0, 0⟩, ⟨193, false, false, 0, 0⟩, Gs.zc, Gs.zc, Gs.zc, Gs.zc] : List Gs.Cell))) (fun v6 w6 D6 => ?_)
 obtain ⟨Kz, U6⟩ := D6
 rw [show Gs.readB ([⟨1, false, true, 0, 0⟩, ⟨193, false, false, 0, 0⟩, Gs.zc, Gs.zc, Gs.zc, Gs.zc] : List Gs.Cell) 2 125 = [125, 64, 194, 17, 64, 193, 193] by decide +kernel] at Kz
 obtain ⟨A22, c22, rfl, _⟩ := Kz.bH
 replace Kz := Kz.mono (B' := w.heap.size) hF.size
 refine aN (aat (bs := [125, 64, 194, 17, 64, 193, 193]) Kz.yZ rfl Kz.akX (by intro x hx; simp at hx; omega) (by decide)) (fun v7 w7 D7 => ?_)
 obtain ⟨q23, l23, A23, c23, hq23, hi23, rfl, tN, SB, hw23, gA23, gC23, ha23, U7⟩ := D7
 rw [show Gs.O0 [125, 64, 194, 17, 64, 193, 193] = Gs.aI1 from by unfold Gs.O0; rw [Gs.aj0]; try rfl] at hq23
 subst hq23
 rw [show Gs.adK (Gs.wS [125, 64, 194, 17, 64, 193, 193]) = 0 from by rw [Gs.aj0]; rfl]
 replace hi23 : Gs.its l23 = (Gs.aI1 : Gs.Inb).items := hi23.symm
 refine Z.e ?_
 refine Z.e ?_
 refine Z.n (#[Z.u 0, .bool false, Z.i 0, .slice none 0 0]) (fun b8 w8 e8 mG _ U8 => ?_)
 replace dB := U7.af (U6.af dB)
 have afi : gT ≠ b8 := by have := ak dB; omega
 have abl := tN.apart e8
 have WV := SB.apart e8
 replace hF := (hF.go0 U6).go0 U7
 have Gl : w.heap.size ≤ b8 := by have := hF.size; omega
 refine Z.t 4 (#[Z.u 125, .bool false, Z.i 2, .slice A23 l23.length c23]) (by (simp [Value.cells, Value.oneCell', Gs.cv, Gs.fv, Gs.ie]; done)) mG (fun w9 mG _ U9 => ?_)
 refine rD (cu _ _ _ _ _) (by rfl) ?_
 refine aX (aX ?_)
 refine rD (cu _ _ _ _ _) (by rfl) ?_
 refine aU (aX ?_)
 refine Z.b 4 (#[Z.u 125, .bool false, Z.i 2, .slice A23 l23.length c23]) mG ?_
 refine aX ?_
 replace tN := (tN.ai U8).aG U9 abl
 replace SB := (SB.ai U8).aG U9 WV
 replace dB := U9.aj (U8.af dB) afi
 refine aB (acb (page := 37) tN rfl SB hgT dB (by decide) (by decide) hw23 (Gs.acj hi23 (p := fun p _ => -9223372036854775808 ≤ p ∧ p ≤ 9223372036854775807) (by decide)) (by have := congrArg List.length hi23; rw [Gs.JZ] at this; rw [this]; decide) (Gs.acj hi23 (p := fun _ c => c.length ≤ 100000) (by decide))) (fun w10 aW => ?_)
 rw [hi23, show Gs.UE 37 ⟨125, false, 2, Gs.aI1.items⟩ = _ from Gs.amj]
 refine aX ?_
 refine rD (eqS _ _ _ _) (by rfl) ?_
 refine aU (aX ?_)
 refine aB (Et (page := 37) (b := 193)) (fun nT bJ => ?_)
 refine aX ?_
 refine rD (cu _ _ _ _ _) (by rfl) ?_
 refine aU ?_
 replace hF := (((hF.go0 U8).go1 U9 Gl).go0 aW).go0 bJ
 exact ⟨rfl, hF⟩
end Go.Proofs.YtjdoakbadehicaaGreatDoor
end
section
namespace Gs
open Go Go.Sh
def Tz : List Int := [245, 195, 17, 64, 67, 193]
theorem abD : iI [17, 64, 67, 193] = ([⟨17, 3, 0, false, [], []⟩, ⟨0, 0, 0, false, [], [193]⟩], 0) := by
 rw [Ae (by decide) (show jA [17, 64, 67, 193] = .ok (⟨17, 3, 0, false, [], []⟩, [193]) from by rfl), Ae (by decide) (show jA [193] = .ok (⟨0, 0, 0, false, [], [193]⟩, []) from by rfl), rZ]
theorem adT : gZ 6 Tz = (⟨⟨245, 195, [⟨17, 3, 0, false, [], []⟩, ⟨0, 0, 0, false, [], [193]⟩], 0⟩, []⟩, 0) := by
 rw [show gZ 6 Tz = (⟨⟨245, 195, (iI [17, 64, 67, 193]).1, (iI [17, 64, 67, 193]).2⟩, []⟩, 0) from rfl, abD]
theorem abE : zq (TA 1 6) Tz = (⟨1, 6, 1, 6, 0, 1, 6, [zc, zc, zc, ⟨193, false, false, 0, 0⟩, zc, zc], 0⟩, ⟨0, true, false, 0⟩) := by
 rw [TB (b := Tz) adT rfl]
 rfl
theorem V8 (w : Int) : gZ 2 [241, w] = (⟨⟨241, w, [], 0⟩, []⟩, 0) := by
 rw [show gZ 2 [241, w] = (⟨⟨241, w, (iI []).1, (iI []).2⟩, []⟩, 0) from rfl, rZ]
theorem DJ (s : iV) (w : Int) : zq s [241, w] = (AO s w, ⟨0, decide (w / 2 % 2 = 1), decide (w / 4 % 2 = 1), 0⟩) := by
 rw [TB (b := [241, w]) (V8 w) rfl]
 show o7 s ⟨241, w, [], 0⟩ = _
 rw [afx rfl]
 unfold qJ
 show (_, O3 _ (if (0 : Int) = 0 then 0 else 0)) = _
 rw [if_pos rfl, abG rfl]
 rfl
end Gs
namespace Gs
open Go Go.Sh
theorem abH {n : Nat} {x : Cell} (hx : x.st = false) (i j : Int) : (bK (gV (List.replicate n zc) i x) j).st = false := by
 rw [FZ]
 split
 ·exact hx
 ·rw [TC]; rfl
theorem Xe {cs : List Cell} {i : Int} (h : 0 ≤ i ∧ i < cs.length) (hs : ∀ j, (bK cs j).st = false) : gI cs i < 0 := by
 apply Classical.byContradiction
 intro hb
 obtain ⟨h1, h2, h3, _⟩ := Nq h hb
 exact absurd (h3.symm.trans (hs _)) (by decide)
theorem TD {n : Nat} (hn : 0 < n) : jB (List.replicate n zc) 0 = true ∧ lH (List.replicate n zc) 0 = false := by
 have hb := Xe (cs := List.replicate n zc) (i := 0) (by rw [List.length_replicate]; omega) (fun j => by rw [TC]; rfl)
 refine ⟨?_, ?_⟩
 ·unfold jB; rw [if_pos hb, List.length_replicate]; exact decide_eq_true (by omega)
 ·unfold lH; exact decide_eq_false (fun h => h hb)
theorem Xf {n : Nat} (hn : 0 < n) {x : Cell} (hx : x.st = false) : lV (gV (List.replicate n zc) 0 x) 0 = gV (List.replicate n zc) 0 x :=
 JQ (Xe (by rw [lD, List.length_replicate]; omega) (abH hx 0))
theorem ajj {n : Nat} (hn : 0 < n) (x : Cell) : bK (gV (List.replicate n zc) 0 x) 0 = x := by
 rw [FZ, if_pos ⟨rfl, by omega, by rw [List.length_replicate]; omega⟩]
end Gs
end
section
namespace Go.Proofs.YtjdoakbadehicaaGreatDoor
open Go Go.Sh
set_option maxRecDepth 100000
set_option maxHeartbeats 2000000 in
theorem sZ {w : World} :
    oX 25 #[] w fun e w' => e = .returned (.bool true) ∧ aA no w w' := by
 refine F25.calls ?_
 unfold F25
 have hz6 : Gs.aZ 1 6 ≠ 0 := by decide
 have hS := Gs.acN hz6
 have hF : aA no w w := Fr.refl _ _ _
 refine au (bG (l := [(0, 1), (1, 1)]) (z := #[Z.i 0, Z.i 0]) (cs := [Z.i 1, Z.i 6]) (by kernel_rfl) (by rfl)) ?_
 refine au (bG (l := [(0, 1), (1, 1)]) (z := #[Z.i 0, Z.i 0]) (cs := [Z.i 1, Z.i 6]) (by kernel_rfl) (by rfl)) ?_
 refine aN (NZ (r0 := 1) (c0 := 6) (r1 := 1) (c1 := 6) hz6 hz6) (fun v3 w3 D3 => ?_)
 obtain ⟨bs, bp, gg, rfl, gbs, gbp, ay, ag, ae, U3⟩ := D3
 replace ae := ae.mono (B' := w.heap.size) hF.size
 refine Z.e ?_
 refine Z.e ?_
 refine au (v := .bool false) (ae6 (e := 89) (by kernel_rfl)) ?_
 refine bz (bz ?_)
 refine aB (iL ay) (fun w4 U4 => ?_)
 refine bz ?_
 refine au (v := .bool false) (ae6 (e := 91) (by kernel_rfl)) ?_
 refine aT (aF ?_)
 refine dM (e := 5) (m := 1) (z := #[Z.u 0]) (by kernel_rfl) (by kernel_rfl) (by rfl) (by decide) (by (simp [eH, splice, fU, Value.cells, Gs.cv, Gs.fv, Gs.ie, Gs.pe, Gs.oe, Gs.cZ, Gs.fe, Gs.fE, Gs.ce, Gs.dZ, Gs.re, Gs.de, Gs.ie]; rfl)) (fun b5 w5 e5 cO _ U5 => ?_)
 replace ay := U4.af ay
 have afk : bs ≠ b5 := by have := ak ay; omega
 replace ag := U4.af ag
 have kC : bp ≠ b5 := by have := ak ag; omega
 replace ae := ae.ai U4
 have jF := ae.apart e5
 replace hF := ((hF.go0 U3).go0 U4).go0 U5
 replace ae := ae.ai U5
 replace ay := U5.af ay
 replace ag := U5.af ag
 refine aN (Ee (s := Gs.TA 1 6) (b := Gs.Tz) ay ag ae hS (by have := hF.size; omega) (Rd.nG (xs := vals .u8 Gs.Tz) cO) rfl (by decide) (by unfold Gs.Tz Bs; decide) (by decide) (.inr (fun k hk hs => by obtain ⟨a, ea, ek⟩ := hk; cases ea; exact jF _ hs ek.symm)) (.inr (fun k hk e => by obtain ⟨a, ea, ek⟩ := hk; cases ea; exact kC (e.symm.trans ek.symm))) (.inr (fun k hk e => by obtain ⟨a, ea, ek⟩ := hk; cases ea; exact afk (e.symm.trans ek.symm)))) (fun v6 w6 D6 => ?_)
 have aJ := ae
 have qF6 := hF.size
 obtain ⟨rfl, bp19, A19, n19, cp19, ay, Az, yA, hn19, hb19, ho19, U6⟩ := D6
 rw [Gs.abE] at ay Az yA hn19
 rw [Gs.abE]
 replace hF := hF.go U6 (fun i hi hs => by (rcases hs with (hs | hs) | hs <;> first | (subst hs; omega) | (have := (Own.ge aJ hs).1; omega)))
 clear aJ
 refine Z.n ((Gs.re Gs.qi).toArray) (fun b7 w7 e7 lC _ U7 => ?_)
 have Hw : bs ≠ b7 := by have := ak ay; omega
 have abm : bp19 ≠ b7 := by have := ak Az; omega
 have Sm := yA.apart e7
 have uZ : w.heap.size ≤ b7 := by have := hF.size; omega
 refine Z.t 4 ((Gs.re ⟨0, true, false, 0⟩).toArray) (by (simp [Value.cells, Value.oneCell', Gs.cv, Gs.fv, Gs.ie, Gs.pe, Gs.oe, Gs.cZ, Gs.fe, Gs.fE, Gs.ce, Gs.dZ, Gs.re, Gs.de, Gs.ie]; done)) lC (fun w8 lC _ U8 => ?_)
 refine rD (cu _ _ _ _ _) (rfl) ?_
 refine aX ?_
 refine Z.f 1 ?_
 refine aX ?_
 refine Z.l lC ?_
 refine aU (aX (aX ?_))
 replace ay := U8.aj (U7.af ay) Hw
 refine aB (iL ay) (fun w9 U9 => ?_)
 refine aX ?_
 replace yA := ((yA.ai U7).aG U8 Sm).ai U9
 replace Az := U9.af (U8.aj (U7.af Az) abm)
 refine aB (iw Az yA hn19 (i := 3)) (fun w10 aW => ?_)
 refine aX ?_
 refine au (qA (off := 0) (by kernel_rfl) (by rfl)) ?_
 refine aX ?_
 refine rD (cu _ _ _ _ _) (by rfl) ?_
 refine aU (aX (aX ?_))
 replace ay := aW.af (U9.af ay)
 refine aB (iL ay) (fun nT bJ => ?_)
 refine aX ?_
 replace yA := (yA.ai aW).ai bJ
 replace Az := bJ.af (aW.af Az)
 refine PQ (Bg Az yA hn19 (by rw [hn19]; decide) (by rw [hn19]; decide)) (by decide +kernel) (fun w12 df => ?_)
 refine aX ?_
 refine au (nP) ?_
 refine aU ?_
 replace hF := (((((hF.go0 U7).go1 U8 uZ).go0 U9).go0 aW).go0 bJ).go0 df
 exact ⟨rfl, hF⟩
theorem adw {bk bs : Nat} {st why tn last x : Int} {ins : Bool} {w : World} (aC : Z.h w bk #[Z.p bs, Z.i st, Z.i why, Z.i tn, .bool ins, Z.u last] 95) (hs : st ≠ 1) :
    oX 18 #[Z.p bk, .agg #[Z.i 1, Z.u x]] w fun e w' => e = .returned (.tuple #[.bool false, Z.i 40]) ∧ aA no w w' := by
 refine KO.calls ?_
 unfold KO
 have hF : aA no w w := Fr.refl _ _ _
 refine Z.x (#[Z.i 1, Z.u x]) (fun b1 w1 e1 ah _ U1 => ?_)
 refine Z.f 0 ?_
 refine Z.l ah ?_
 refine jq (cu _ _ _ _ _) (by decide) ?_
 refine aF ?_
 refine dw ?_
 refine Z.f 1 ?_
 replace aC := U1.af aC
 refine aB (mg aC) (fun w2 U2 => ?_)
 rw [if_neg hs]
 refine rD (jQ _ _ _ _ _) (by decide) ?_
 refine aK ?_
 replace hF := (hF.go0 U1).go0 U2
 exact ⟨rfl, hF⟩
theorem adx {bk bs : Nat} {st why tn last : Int} {ins : Bool} {w : World} (aC : Z.h w bk #[Z.p bs, Z.i st, Z.i why, Z.i tn, .bool ins, Z.u last] 95)  :
    oX 35 #[Z.p bk] w fun e w' => e = .returned (Z.u last) ∧ aA no w w' := by
 refine F35.calls ?_
 unfold F35
 have hF : aA no w w := Fr.refl _ _ _
 refine dw ?_
 refine Z.f 5 ?_
 refine Z.l aC ?_
 exact ⟨rfl, hF⟩
theorem Qg {r c cur : Int} {A : Option Addr} {n cp bp B0 : Nat} {cs : List Gs.Cell} {w : World} (ag : Z.h w bp #[Z.i r, Z.i c, .slice A n cp, Z.i cur] 91) (ae : Own B0 w 37 5 (.slice A n cp) (rows Gs.cv cs)) (hn : n = cs.length) {x : Int} (hN : Gs.aZ r c = n) (hb : n ≤ 4096) (hcw : Gs.jh cs) (hof : Gs.lH cs cur = false) (hop : Gs.jB cs cur = true)  :
    oX 71 #[Z.p bp, Z.u x] w fun e w' => e = .returned (Z.i 0) ∧ aA no w w' := by
 refine Qr.calls ?_
 unfold Qr
 have hF : aA no w w := Fr.refl _ _ _
 refine aB (dW ag ae hn) (fun w1 U1 => ?_)
 replace ae := ae.ai U1
 replace ag := U1.af ag
 refine aB (rE ag ae hn hN hb hcw (i := cur)) (fun w2 U2 => ?_)
 rw [hof]
 refine Z.e ?_
 refine Z.e ?_
 refine Z.n ((Gs.fv Gs.zf).toArray) (fun b3 w3 e3 bF _ U3 => ?_)
 replace ag := U2.af ag
 have kV : bp ≠ b3 := by have := ak ag; omega
 replace ae := ae.ai U2
 have iH := ae.apart e3
 replace hF := (hF.go0 U1).go0 U2
 have jD : w.heap.size ≤ b3 := by have := hF.size; omega
 refine Z.t 3 ((Gs.fv (Gs.mf cs cur)).toArray) (by (simp [Value.cells, Value.oneCell', Gs.cv, Gs.fv, Gs.ie, Gs.pe, Gs.oe, Gs.cZ, Gs.fe, Gs.fE, Gs.ce, Gs.dZ, Gs.re, Gs.de, Gs.ie]; done)) bF (fun w4 N4 _ U4 => ?_)
 replace ae := (ae.ai U3).aG U4 iH
 replace ag := U4.aj (U3.af ag) kV
 refine aB (dW ag ae hn) (fun w5 U5 => ?_)
 replace ae := ae.ai U5
 replace ag := U5.af ag
 refine ru (mV ag ae hn hN hb hcw (i := cur)) (hop) (fun w6 U6 => ?_)
 refine au (kz) ?_
 refine aF (aQ (aQ (aQ (aT (aQ (aQ (aQ (aT (aF ?_)))))))))
 replace hF := (((hF.go0 U3).go1 U4 jD).go0 U5).go0 U6
 exact ⟨rfl, hF⟩
theorem Qh {r c cur : Int} {A : Option Addr} {n cp bp B0 : Nat} {cs : List Gs.Cell} {w : World} (ag : Z.h w bp #[Z.i r, Z.i c, .slice A n cp, Z.i cur] 91) (ae : Own B0 w 37 5 (.slice A n cp) (rows Gs.cv cs)) (hn : n = cs.length) {x : Int} (hp : 0 < n) (hN : Gs.aZ r c = n) (hb : n ≤ 4096) (hcw : Gs.jh cs) (hxb : 0 ≤ x ∧ x ≤ 255) (hof : Gs.lH cs cur = false) (hop : Gs.jB cs cur = true) (hx : (Gs.bK (Gs.lV (Gs.gV cs cur ⟨x, false, false, (Gs.bK cs cur).l, (Gs.bK cs cur).c⟩) cur) ((cur + 1) % (n : Int))).st = false)  :
    oX 37 #[Z.p bp, Z.u x, .bool false] w fun e w' => ∃ v, e = .returned v ∧ v = Z.i 0 ∧ Z.h w' bp #[Z.i r, Z.i c, .slice A n cp, Z.i ((cur + 1) % (n : Int))] 91 ∧ Own B0 w' 37 5 (.slice A n cp) (rows Gs.cv (Gs.lV (Gs.gV cs cur ⟨x, false, false, (Gs.bK cs cur).l, (Gs.bK cs cur).c⟩) cur)) ∧ aA (fun k => aH (.slice A n cp) k ∨ k = bp) w w' := by
 refine Qu.calls ?_
 unfold Qu
 have hl1 : n = (Gs.gV cs cur ⟨x, false, false, (Gs.bK cs cur).l, (Gs.bK cs cur).c⟩).length := by rw [Gs.lD]; exact hn
 have hw1 : Gs.jh (Gs.gV cs cur ⟨x, false, false, (Gs.bK cs cur).l, (Gs.bK cs cur).c⟩) := hcw.gV (show Gs.Cw ⟨x, false, false, (Gs.bK cs cur).l, (Gs.bK cs cur).c⟩ from hxb) _
 have hl2 : n = (Gs.lV (Gs.gV cs cur ⟨x, false, false, (Gs.bK cs cur).l, (Gs.bK cs cur).c⟩) cur).length := by rw [Gs.DN]; exact hl1
 have hcur := Gs.I4 hop
 have hF : aA (fun k => aH (.slice A n cp) k ∨ k = bp) w w := Fr.refl _ _ _
 refine aB (dW ag ae hn) (fun w1 U1 => ?_)
 replace ae := ae.ai U1
 replace ag := U1.af ag
 refine aB (Qg ag ae hn (x := x) hN hb hcw hof hop) (fun w2 U2 => ?_)
 refine jq (jQ _ _ _ _ _) (fun h => h rfl) ?_
 refine aF ?_
 replace ae := ae.ai U2
 replace ag := U2.af ag
 refine aB (iw ag ae hn (i := cur)) (fun w3 U3 => ?_)
 refine Z.n ((Gs.cv Gs.zc).toArray) (fun b4 w4 e4 ed _ U4 => ?_)
 replace ag := U3.af ag
 have pY : bp ≠ b4 := by have := ak ag; omega
 replace ae := ae.ai U3
 have l9 := ae.apart e4
 replace hF := ((hF.go0 U1).go0 U2).go0 U3
 have mY : w.heap.size ≤ b4 := by have := hF.size; omega
 refine Z.t 5 ((Gs.cv (Gs.bK cs cur)).toArray) (by (simp [Value.cells, Value.oneCell', Gs.cv, Gs.fv, Gs.ie, Gs.pe, Gs.oe, Gs.cZ, Gs.fe, Gs.fE, Gs.ce, Gs.dZ, Gs.re, Gs.de, Gs.ie]; done)) ed (fun w5 ed _ U5 => ?_)
 refine bP (fun g w' => (Z.h w' bp #[Z.i r, Z.i c, .slice A n cp, Z.i cur] 91) ∧ (Own B0 w' 37 5 (.slice A n cp) (rows Gs.cv cs)) ∧ (Z.h w' b4 ((Gs.cv (Gs.bK cs cur)).toArray) 37) ∧ (aA (fun k => aH (.slice A n cp) k ∨ k = bp) w w')) (fun J1 hJ1 => ?_) (fun gJ1 jK hI => ?_)
 refine aF ?_
 refine hJ1 _ _ ?_
 replace ae := (ae.ai U4).aG U5 l9
 replace ag := U5.aj (U4.af ag) pY
 replace hF := (hF.go0 U4).go1 U5 mY
 exact ⟨ag, ae, ed, hF⟩
 replace ae := (ae.ai U4).aG U5 l9
 replace ag := U5.aj (U4.af ag) pY
 replace hF := (hF.go0 U4).go1 U5 mY
 obtain ⟨ag, ae, ed, hF⟩ := hI
 refine Z.f 3 ?_
 refine Z.l ed ?_
 refine Z.f 4 ?_
 refine Z.l ed ?_
 refine au (bG (l := [(0, 1), (1, 1), (2, 1), (3, 1), (4, 1)]) (z := #[Z.u 0, .bool false, .bool false, Z.u 0, Z.u 0]) (cs := Gs.cv ⟨x, false, false, (Gs.bK cs cur).l, (Gs.bK cs cur).c⟩) (by kernel_rfl) (by rfl)) ?_
 refine aN (jv ag ae hn (i := cur) (x := ⟨x, false, false, (Gs.bK cs cur).l, (Gs.bK cs cur).c⟩)) (fun v7 w7 D7 => ?_)
 obtain ⟨rfl, N7, U7⟩ := D7
 have aJ := ae
 replace ag := U7.get ag (fun h => Own.aS aJ ag (by decide) _ h rfl)
 replace ae := N7
 replace hF := hF.go U7 (fun i h hs => .inl hs)
 clear aJ
 refine aN (vT ag ae hl1 hN hb hw1 (i := cur)) (fun v8 w8 D8 => ?_)
 obtain ⟨rfl, N8, U8⟩ := D8
 have aJ := ae
 replace ag := U8.get ag (fun h => Own.aS aJ ag (by decide) _ h rfl)
 replace ae := N8
 replace hF := hF.go U8 (fun i h hs => .inl hs)
 clear aJ
 refine aN (JK ag ae hl2 hp hN hb hx) (fun v9 w9 D9 => ?_)
 obtain ⟨rfl, N9, U9⟩ := D9
 replace ae := ae.aG U9 (Own.aS ae (by assumption) (by decide))
 replace ag := N9
 replace hF := hF.go U9 (fun i _ h => .inr h)
 exact ⟨_, rfl, rfl, ag, ae, hF⟩
theorem WW {r c cur : Int} {A : Option Addr} {n cp bp B0 : Nat} {cs : List Gs.Cell} {bk bs : Nat} {st why tn last : Int} {r0 c0 r1 c1 wh : Int} {w : World} (ag : Z.h w bp #[Z.i r, Z.i c, .slice A n cp, Z.i cur] 91) (ae : Own B0 w 37 5 (.slice A n cp) (rows Gs.cv cs)) (hn : n = cs.length) (aC : Z.h w bk #[Z.p bs, Z.i st, Z.i why, Z.i tn, .bool false, Z.u last] 95) (ay : Z.h w bs #[Z.i r0, Z.i c0, Z.i r1, Z.i c1, Z.i wh, Z.p bp] 89) {x : Int} (hp : 0 < n) (hN : Gs.aZ r c = n) (hb : n ≤ 4096) (hcw : Gs.jh cs) (hxb : 0 ≤ x ∧ x ≤ 255) (hof : Gs.lH cs cur = false) (hop : Gs.jB cs cur = true) (hx : (Gs.bK (Gs.lV (Gs.gV cs cur ⟨x, false, false, (Gs.bK cs cur).l, (Gs.bK cs cur).c⟩) cur) ((cur + 1) % (n : Int))).st = false)  :
    oX 52 #[Z.p bk, .agg #[Z.i 1, Z.u x]] w fun e w' => ∃ v, e = .returned v ∧ v = Z.i 0 ∧ Z.h w' bp #[Z.i r, Z.i c, .slice A n cp, Z.i ((cur + 1) % (n : Int))] 91 ∧ Own B0 w' 37 5 (.slice A n cp) (rows Gs.cv (Gs.lV (Gs.gV cs cur ⟨x, false, false, (Gs.bK cs cur).l, (Gs.bK cs cur).c⟩) cur)) ∧ aA (fun k => aH (.slice A n cp) k ∨ k = bp) w w' := by
 refine Xn.calls ?_
 unfold Xn
 have lt_h_bk := ak aC
 have XR := ak ay
 have wJ := ak ag
 have l7 := Own.lt ae
 have hF : aA (fun k => aH (.slice A n cp) k ∨ k = bp) w w := Fr.refl _ _ _
 refine Z.x (#[Z.i 1, Z.u x]) (fun b1 w1 e1 ah _ U1 => ?_)
 have aoS : bk ≠ b1 := by have := ak aC; omega
 have wB : bs ≠ b1 := by have := ak ay; omega
 have kD : bp ≠ b1 := by have := ak ag; omega
 have ik := ae.apart e1
 have bZ : w.heap.size ≤ b1 := by have := hF.size; omega
 refine dw ?_
 refine Z.f 0 ?_
 replace aC := U1.af aC
 refine Z.l aC ?_
 replace ay := U1.af ay
 refine aB (iL ay) (fun w2 U2 => ?_)
 refine bP (fun g w' => (False) ∧ (aA (fun k => aH (.slice A n cp) k ∨ k = bp) w w')) (fun J1 hJ1 => ?_) (fun gJ1 jK hI => ?_)
 refine Z.f 0 ?_
 replace ah := U2.af ah
 refine Z.l ah ?_
 refine rD (cu _ _ _ _ _) (rfl) ?_
 refine aK ?_
 refine dK (S := fun k => aH (.slice A n cp) k ∨ k = bp) (fun w3 U3 => ?_)
 refine Z.g 1 ?_
 replace ae := ((ae.ai U1).ai U2).ai U3
 replace ah := U3.af ah
 refine bI (fun w' hw' => by have ah := hw'.get ah (fun hs => Or.elim hs (fun h => Own.aS ae ah (by decide) _ h rfl) (fun e => absurd e (Ne.symm kD))); exact (kT (by kernel_rfl) ah (by rfl))) ?_
 refine eG ?_
 refine Z.g 4 ?_
 replace ag := U3.af (U2.af (U1.af ag))
 replace hF := ((hF.go0 U1).go0 U2).go0 U3
 replace aC := U3.af (U2.af aC)
 refine bI (fun w' hw' => by have aC := hw'.get aC (fun hs => Or.elim hs (fun h => Own.aS ae aC (by decide) _ h rfl) (fun e => absurd e (by exact dP (by assumption) (by assumption) (by decide)))); exact (kT (by kernel_rfl) aC (by rfl))) ?_
 refine aI (fun w4 U4 => ?_)
 replace ae := ae.ai U4
 replace ag := U4.af ag
 refine aN (Qh ag ae hn hp hN hb hcw hxb hof hop hx) (fun v5 w5 D5 => ?_)
 obtain ⟨rfl, M5, N5, U5⟩ := D5
 have aJ := ae
 replace ae := N5
 replace ag := M5
 replace hF := hF.go0 U4
 replace hF := hF.go U5 (fun i h hs => Or.elim (show aH _ _ ∨ _ = _ from hs) (fun hs => .inl hs) (fun hb => by (subst hb; omega)))
 clear aJ
 refine aI (fun w6 U6 => ?_)
 replace ae := ae.ai U6
 replace ag := U6.af ag
 replace hF := hF.go0 U6
 exact ⟨_, rfl, rfl, ag, ae, hF⟩
 replace hF := (hF.go0 U1).go0 U2
 obtain ⟨hno, hF⟩ := hI
 exact hno.elim
theorem Su {r c cur : Int} {A : Option Addr} {n cp bp B0 : Nat} {cs : List Gs.Cell} {bk bs : Nat} {st why tn last : Int} {r0 c0 r1 c1 wh : Int} {w : World} (ag : Z.h w bp #[Z.i r, Z.i c, .slice A n cp, Z.i cur] 91) (ae : Own B0 w 37 5 (.slice A n cp) (rows Gs.cv cs)) (hn : n = cs.length) (aC : Z.h w bk #[Z.p bs, Z.i st, Z.i why, Z.i tn, .bool false, Z.u last] 95) (ay : Z.h w bs #[Z.i r0, Z.i c0, Z.i r1, Z.i c1, Z.i wh, Z.p bp] 89) {x : Int} (hp : 0 < n) (hN : Gs.aZ r c = n) (hb : n ≤ 4096) (hcw : Gs.jh cs) (hxb : 0 ≤ x ∧ x ≤ 255) (hof : Gs.lH cs cur = false) (hop : Gs.jB cs cur = true) (hx : (Gs.bK (Gs.lV (Gs.gV cs cur ⟨x, false, false, (Gs.bK cs cur).l, (Gs.bK cs cur).c⟩) cur) ((cur + 1) % (n : Int))).st = false) (hs : st = 1)  :
    oX 18 #[Z.p bk, .agg #[Z.i 1, Z.u x]] w fun e w' => ∃ v, e = .returned v ∧ v = .tuple #[.bool false, Z.i 0] ∧ Z.h w' bp #[Z.i r, Z.i c, .slice A n cp, Z.i ((cur + 1) % (n : Int))] 91 ∧ Own B0 w' 37 5 (.slice A n cp) (rows Gs.cv (Gs.lV (Gs.gV cs cur ⟨x, false, false, (Gs.bK cs cur).l, (Gs.bK cs cur).c⟩) cur)) ∧ aA (fun k => aH (.slice A n cp) k ∨ k = bp) w w' := by
 refine KO.calls ?_
 unfold KO
 have hF : aA (fun k => aH (.slice A n cp) k ∨ k = bp) w w := Fr.refl _ _ _
 refine Z.x (#[Z.i 1, Z.u x]) (fun b1 w1 e1 ah _ U1 => ?_)
 refine Z.f 0 ?_
 refine Z.l ah ?_
 refine jq (cu _ _ _ _ _) (by decide) ?_
 refine aF ?_
 refine dw ?_
 refine Z.f 1 ?_
 replace aC := U1.af aC
 refine aB (mg aC) (fun w2 U2 => ?_)
 rw [if_pos hs]
 refine jq (jQ _ _ _ _ _) (fun h => h rfl) ?_
 refine aF ?_
 replace ah := U2.af ah
 refine Z.b 2 (#[Z.i 1, Z.u x]) ah ?_
 refine ru (Gp hxb) (decide_eq_true (.inl (by decide))) (fun w3 U3 => ?_)
 refine au (kz) ?_
 refine aF ?_
 refine Z.f 0 ?_
 replace ah := U3.af ah
 refine Z.l ah ?_
 refine jq (cu _ _ _ _ _) (by decide) ?_
 refine aF ?_
 refine dK (S := no) (fun w4 U4 => ?_)
 refine eG ?_
 refine Z.g 0 ?_
 replace aC := U4.af (U3.af (U2.af aC))
 refine bI (fun w' hw' => by have aC := (Fr.jk hw').af aC; exact (kT (by kernel_rfl) aC (by rfl))) ?_
 refine Z.g 0 ?_
 replace ah := U4.af ah
 refine Z.m ah ?_
 refine aI (fun w5 U5 => ?_)
 refine jo ?_
 replace ay := U5.af (U4.af (U3.af (U2.af (U1.af ay))))
 refine aB (iL ay) (fun w6 U6 => ?_)
 refine ⟨U6, ?_⟩
 refine aI (fun w7 U7 => ?_)
 refine PQ (abk) (rfl) (fun w8 U8 => ?_)
 refine aI (fun w9 U9 => ?_)
 refine aF ?_
 refine dK (S := fun k => aH (.slice A n cp) k ∨ k = bp) (fun w10 aW => ?_)
 refine eG ?_
 refine Z.g 1 ?_
 replace ah := aW.af (U9.af (U8.af (U7.af (U6.af (U5.af ah)))))
 refine bI (fun w' hw' => by have ah := (Fr.jk hw').af ah; exact (zg (n := 2) (cs' := #[Z.i 1, Z.u x]) (by kernel_rfl) ah (Nat.le_of_ble_eq_true rfl) (by rfl))) ?_
 refine aI (fun nT bJ => ?_)
 refine jo ?_
 replace ae := ((((((((((ae.ai U1).ai U2).ai U3).ai U4).ai U5).ai U6).ai U7).ai U8).ai U9).ai aW).ai bJ
 replace ag := bJ.af (aW.af (U9.af (U8.af (U7.af (U6.af (U5.af (U4.af (U3.af (U2.af (U1.af ag))))))))))
 replace aC := bJ.af (aW.af (U9.af (U8.af (U7.af (U6.af (U5.af aC))))))
 replace ay := bJ.af (aW.af (U9.af (U8.af (U7.af (U6.af ay)))))
 refine aN (WW ag ae hn aC ay hp hN hb hcw hxb hof hop hx) (fun v12 w12 D12 => ?_)
 obtain ⟨rfl, M12, N12, df⟩ := D12
 have aJ := ae
 replace ae := N12
 replace aC := df.get aC (fun hs => Or.elim (show aH _ _ ∨ _ = _ from hs) (fun h => Own.aS aJ aC (by decide) _ h rfl) (fun hb => absurd hb (by exact dP (by assumption) (by assumption) (by decide))))
 replace ag := M12
 replace hF := ((((((((((hF.go0 U1).go0 U2).go0 U3).go0 U4).go0 U5).go0 U6).go0 U7).go0 U8).go0 U9).go0 aW).go0 bJ
 replace hF := hF.go df (fun i h hs => Or.elim (show aH _ _ ∨ _ = _ from hs) (fun hs => .inl hs) (fun hb => by (subst hb; omega)))
 clear aJ
 refine ⟨df, ?_⟩
 refine aI (fun uX dE => ?_)
 replace aC := dE.af aC
 refine aB (VQ aC hs) (fun sJ dm => ?_)
 refine aI (fun tX bU => ?_)
 replace ae := ((ae.ai dE).ai dm).ai bU
 replace ag := bU.af (dm.af (dE.af ag))
 replace hF := ((hF.go0 dE).go0 dm).go0 bU
 exact ⟨_, rfl, rfl, ag, ae, hF⟩
theorem MP {r c : Int} {ds : List Gs.lh} {dA : Option Addr} {dc : Nat} {gT : Nat} {eT : TypeId} {fT : Nat × Nat} {w : World} (hgT : Tryz.prog.globalNamed "internal/strconv.uint64pow10" = some gT) (dB : w.heap[gT]? = some (.cells Gs.xR eT fT)) (gm : Rd w dA (rows Gs.de ds)) (gu : Gs.sO w ds) (hdw : Gs.H9 ds) (hdn : ds.length ≤ maxLen) (hok : ¬ Gs.zJ r c ds) :
    oX 7 #[.agg #[Z.i r, Z.i c], .slice dA ds.length dc] w fun e w' => e = .returned (.bool true) ∧ aA no w w' := by
 refine F7.calls ?_
 unfold F7
 have hF : aA no w w := Fr.refl _ _ _
 refine Z.x (#[Z.i r, Z.i c]) (fun b1 w1 e1 ah _ U1 => ?_)
 replace dB := U1.af dB
 refine ru (uB hgT dB) (rfl) (fun w2 U2 => ?_)
 refine au (kz) ?_
 refine bz ?_
 refine ru (sZ) (rfl) (fun w3 U3 => ?_)
 refine bz ?_
 refine au (kz) ?_
 refine aT (aF ?_)
 replace ah := U3.af (U2.af ah)
 refine Z.b 2 (#[Z.i r, Z.i c]) ah ?_
 replace gm := ((gm.ai U1).ai U2).ai U3
 replace gu := ((gu.ai U1).ai U2).ai U3
 refine aB (Oe gm gu hdw hdn hok) (fun w4 U4 => ?_)
 refine Z.e ?_
 refine Z.e ?_
 refine Z.e ?_
 refine au (nP) ?_
 refine bu (bu (bu (bu (aU (aK ?_)))))
 replace hF := (((hF.go0 U1).go0 U2).go0 U3).go0 U4
 exact ⟨rfl, hF⟩
set_option maxHeartbeats 4000000 in
theorem MQ {r c : Int} {ds : List Gs.lh} {dA : Option Addr} {dc : Nat} {gT : Nat} {eT : TypeId} {fT : Nat × Nat} {w : World} (hgT : Tryz.prog.globalNamed "internal/strconv.uint64pow10" = some gT) (dB : w.heap[gT]? = some (.cells Gs.xR eT fT)) (gm : Rd w dA (rows Gs.de ds)) (gu : Gs.sO w ds) (hdw : Gs.H9 ds) (hdn : ds.length ≤ maxLen) (hok : Gs.zJ r c ds) :
    oX 7 #[.agg #[Z.i r, Z.i c], .slice dA ds.length dc] w fun e w' => e = .returned (.bool true) ∧ aA no w w' := by
 refine F7.calls ?_
 unfold F7
 have aiP := ak dB
 have alh := gm.lt
 have ali := gu.lt
 have hF : aA no w w := Fr.refl _ _ _
 refine Z.x (#[Z.i r, Z.i c]) (fun b1 w1 e1 ah _ U1 => ?_)
 have afl : gT ≠ b1 := by have := ak dB; omega
 have adr := gm.apart e1
 have ads := gu.apart e1
 have bZ : w.heap.size ≤ b1 := by have := hF.size; omega
 replace dB := U1.af dB
 refine ru (uB hgT dB) (rfl) (fun w2 U2 => ?_)
 refine au (kz) ?_
 refine bz ?_
 refine ru (sZ) (rfl) (fun w3 U3 => ?_)
 refine bz ?_
 refine au (kz) ?_
 refine aT (aF ?_)
 replace ah := U3.af (U2.af ah)
 refine Z.b 2 (#[Z.i r, Z.i c]) ah ?_
 replace gm := ((gm.ai U1).ai U2).ai U3
 replace gu := ((gu.ai U1).ai U2).ai U3
 refine aN (Og gm gu hdw hdn hok) (fun v4 w4 D4 => ?_)
 obtain ⟨s, bs, bk, bp, A, n, cp, st, why, tn, last, ins, rfl, gbs, gbk, gbp, hst, hS, hone, hn60, aC, ay, ag, ae, U4⟩ := D4
 have hW := hS.2
 obtain ⟨hn, hcw, hcu, hp, hN, hb⟩ := id hW
 replace dB := U3.af (U2.af dB)
 have MJ : gT ≠ bk := by have := ak dB; omega
 have rP := (gm.lt).ne (b := bk) (by omega)
 have rQ := (gu.lt).ne (b := bk) (by omega)
 have MK : b1 ≠ bk := by have := ak ah; omega
 replace hF := ((hF.go0 U1).go0 U2).go0 U3
 have Ef : w.heap.size ≤ bk := by have := hF.size; omega
 have ML : gT ≠ bs := by have := ak dB; omega
 have yu := (gm.lt).ne (b := bs) (by omega)
 have yw := (gu.lt).ne (b := bs) (by omega)
 have MM : b1 ≠ bs := by have := ak ah; omega
 have amT : w.heap.size ≤ bs := by have := hF.size; omega
 have zM : gT ≠ bp := by have := ak dB; omega
 have JL := (gm.lt).ne (b := bp) (by omega)
 have JM := (gu.lt).ne (b := bp) (by omega)
 have Dh : b1 ≠ bp := by have := ak ah; omega
 have qo : w.heap.size ≤ bp := by have := hF.size; omega
 have Qc : ¬ aH _ gT := fun h => by have := (Own.ge ae h).1; have := ak dB; omega
 have AY : _ ∨ ∀ k, _ → ¬ aH _ k := (gm.lt).imp_right fun h k hk hs => by have := h k hk; have := (Own.ge ae hs).1; omega
 have AZ : _ ∨ ∀ k, _ → ¬ aH _ k := (gu.lt).imp_right fun h k hk hs => by have := h k hk; have := (Own.ge ae hs).1; omega
 have Qd : ¬ aH _ b1 := fun h => by have := (Own.ge ae h).1; have := ak ah; omega
 replace ae := ae.mono (B' := w.heap.size) hF.size
 refine Z.e ?_
 refine Z.e ?_
 refine Z.e ?_
 refine au (kz) ?_
 refine bz (bz ?_)
 refine aB (wC aC) (fun w5 U5 => ?_)
 refine bz ?_
 replace aC := U5.af aC
 refine aB (mg aC) (fun w6 U6 => ?_)
 obtain ⟨em, hem⟩ : ∃ em : Int, em = (if st = 1 then 0 else 40) := ⟨_, rfl⟩
 rw [← hem]
 have hem2 : (em = 0 → st = 1) ∧ (st = 1 → em = 0) := by subst hem; split <;> omega
 clear hem
 refine bz ?_
 refine az (jQ _ _ _ _ _) (fun h7 => ?_) (fun h7 => ?_)
 refine aT (aK ?_)
 replace hF := ((hF.go0 U4).go0 U5).go0 U6
 exact ⟨rfl, hF⟩
 refine aT (aF ?_)
 refine au (bG (l := [(0, 1), (1, 1)]) (z := #[Z.i 0, Z.u 0]) (by kernel_rfl) (by (simp [eH, splice, fU, Value.cells, Gs.cv, Gs.fv, Gs.ie, Gs.pe, Gs.oe, Gs.cZ, Gs.fe, Gs.fE, Gs.ce, Gs.dZ, Gs.re, Gs.de, Gs.ie]; rfl))) ?_
 replace hF := ((hF.go0 U4).go0 U5).go0 U6
 replace ae := (ae.ai U5).ai U6
 replace ay := U6.af (U5.af ay)
 replace ag := U6.af (U5.af ag)
 replace aC := U6.af aC
 refine aN (Vf ay ag ae hS (by have := hF.size; omega) aC (x := 109) (by decide)) (fun v9 w9 D9 => ?_)
 have aJ := ae
 have qF9 := hF.size
 have qF40 := hF.size
 obtain ⟨q40, e40, st4, why4, tn4, last4, ins4, rfl, hd40, aC, bp40, A40, n40, cp40, ay, pU, mP, hn40, hb40, ho40, U9⟩ := D9
 obtain ⟨rfl, rfl, -, -, rfl, rfl, rfl⟩ := hd40.resolve_right (fun h => h.2.2.2.2.2 ⟨hem2.1 (by omega), by decide⟩)
 rw [if_pos ⟨rfl, rfl⟩] at ay pU mP hn40
 obtain ⟨s1, hs1⟩ : ∃ s1, s1 = Gs.bT s 0 := ⟨_, rfl⟩
 rw [← hs1] at ay pU mP hn40
 have hone1 : Gs.One r c s1 := hs1 ▸ hone.renew 0
 have hcu1 : s1.cur = 0 := by subst hs1; rfl
 have hcs1 : s1.cs = List.replicate (Gs.aZ r c).toNat Gs.zc := by subst hs1; obtain ⟨⟨e1, e2⟩, -⟩ := hone; rw [← e1, ← e2]; rfl
 have hS1 : Gs.Sw n40 s1 := by subst hs1; rw [hn40]; exact hS.renew 0
 clear hs1
 obtain ⟨hn1, hcw1, hcu1', hp1, hN1, hb1⟩ := id hS1.2
 have gbp40 : w.heap.size ≤ bp40 := by rcases hb40 with e | e <;> omega
 replace dB := U6.af (U5.af (U4.af dB))
 replace dB := U9.get dB (fun hs => by rcases hs with ((hs | hs) | hs) | hs <;> first | ((have := Own.ge aJ hs; omega)) | (exact absurd hs zM) | (exact absurd hs ML) | (exact absurd hs MJ))
 replace gm := ((gm.ai U4).ai U5).ai U6
 replace gm := gm.dY U9 (AY.elim .inl fun h0 => JL.elim .inl fun h1 => yu.elim .inl fun h2 => rP.elim .inl fun h3 => .inr fun k hk hs => by rcases hs with ((hs | hs) | hs) | hs <;> first | exact h0 k hk hs | exact h1 k hk hs | exact h2 k hk hs | exact h3 k hk hs)
 replace gu := ((gu.ai U4).ai U5).ai U6
 replace gu := gu.dY U9 (AZ.elim .inl fun h0 => JM.elim .inl fun h1 => yw.elim .inl fun h2 => rQ.elim .inl fun h3 => .inr fun k hk hs => by rcases hs with ((hs | hs) | hs) | hs <;> first | exact h0 k hk hs | exact h1 k hk hs | exact h2 k hk hs | exact h3 k hk hs)
 replace ah := U6.af (U5.af (U4.af ah))
 replace ah := U9.get ah (fun hs => by rcases hs with ((hs | hs) | hs) | hs <;> first | (first | exact Own.aS aJ ah (by decide) _ hs rfl | (have := Own.ge aJ hs; omega)) | (exact absurd hs Dh) | (exact absurd hs MM) | (exact absurd hs MK))
 replace hF := hF.go U9 (fun i hi hs => by (rcases hs with ((hs | hs) | hs) | hs <;> first | (subst hs; omega) | (have := (Own.ge aJ hs).1; omega)))
 clear aJ
 refine Z.e ?_
 refine Z.e ?_
 refine Z.b 2 (#[Z.i r, Z.i c]) ah ?_
 refine aN (ww (r := r) (c := c) hok.1) (fun v10 w10 D10 => ?_)
 obtain ⟨bq, gq, rfl, gbq, wF, ng, aW⟩ := D10
 have aoT : gT ≠ bq := by have := ak dB; omega
 have an1 := (gm.lt).ne (b := bq) (by omega)
 have an2 := (gu.lt).ne (b := bq) (by omega)
 have aoU : b1 ≠ bq := by have := ak ah; omega
 have aoV : bk ≠ bq := by have := ak aC; omega
 have aoW : bs ≠ bq := by have := ak ay; omega
 have amW : bp40 ≠ bq := by have := ak pU; omega
 have ai2 : ∀ k, aH _ k → k ≠ bq := fun k hk => by have := (Own.ge mP hk).2; omega
 have ge_bq : w.heap.size ≤ bq := by have := hF.size; omega
 have agZ : ¬ aH _ gT := fun h => by have := (Own.ge ng h).1; have := ak dB; omega
 have aiQ : _ ∨ ∀ k, _ → ¬ aH _ k := (gm.lt).imp_right fun h k hk hs => by have := h k hk; have := (Own.ge ng hs).1; omega
 have aiR : _ ∨ ∀ k, _ → ¬ aH _ k := (gu.lt).imp_right fun h k hk hs => by have := h k hk; have := (Own.ge ng hs).1; omega
 have ag0 : ¬ aH _ b1 := fun h => by have := (Own.ge ng h).1; have := ak ah; omega
 have ag1 : ¬ aH _ bk := fun h => by have := (Own.ge ng h).1; have := ak aC; omega
 have ag2 : ¬ aH _ bs := fun h => by have := (Own.ge ng h).1; have := ak ay; omega
 have adC : ¬ aH _ bp40 := fun h => by have := (Own.ge ng h).1; have := ak pU; omega
 have ady : ∀ k, aH _ k → ¬ aH _ k := fun k hk hs => by have := (Own.ge mP hk).2; have := (Own.ge ng hs).1; omega
 replace ng := ng.mono (B' := w.heap.size) hF.size
 refine Z.e ?_
 refine Z.e ?_
 refine au (kz) ?_
 refine bz (bz ?_)
 refine jq (jQ _ _ _ _ _) (fun h => h rfl) ?_
 refine aT (bz (bz ?_))
 replace ay := aW.af ay
 refine aB (iL ay) (fun nT bJ => ?_)
 refine bz (bz ?_)
 replace mP := (mP.ai aW).ai bJ
 replace pU := bJ.af (aW.af pU)
 replace ng := ng.ai bJ
 replace wF := bJ.af wF
 refine ru (Vu pU mP hn40 wF ng List.length_replicate.symm hb1) (decide_eq_true ⟨⟨hone1.2.2.1, hone1.2.2.2⟩, hcu1, hcs1⟩) (fun w12 df => ?_)
 refine bz ?_
 refine au (kz) ?_
 refine aT (bz (bz ?_))
 replace ay := df.af (bJ.af ay)
 refine aB (iL ay) (fun uX dE => ?_)
 refine bz (bz ?_)
 replace aC := dE.af (df.af (bJ.af (aW.af aC)))
 refine aB (adx aC) (fun sJ dm => ?_)
 refine bz ?_
 replace mP := ((mP.ai df).ai dE).ai dm
 replace pU := dm.af (dE.af (df.af pU))
 refine aN (Q4 pU mP hn40 (x := 109) hp1 hN1 (by omega) hcw1) (fun v15 tX D15 => ?_)
 obtain ⟨rX, bU⟩ := D15
 obtain ⟨A66, c66, rfl, _⟩ := rX.bH
 replace dB := dm.af (dE.af (df.af (bJ.af (aW.af dB))))
 have ag3 : ¬ aH _ gT := fun h => by have := (Own.ge rX h).1; have := ak dB; omega
 replace gm := ((((gm.ai aW).ai bJ).ai df).ai dE).ai dm
 have aiS : _ ∨ ∀ k, _ → ¬ aH _ k := (gm.lt).imp_right fun h k hk hs => by have := h k hk; have := (Own.ge rX hs).1; omega
 replace gu := ((((gu.ai aW).ai bJ).ai df).ai dE).ai dm
 have aiT : _ ∨ ∀ k, _ → ¬ aH _ k := (gu.lt).imp_right fun h k hk hs => by have := h k hk; have := (Own.ge rX hs).1; omega
 replace ah := dm.af (dE.af (df.af (bJ.af (aW.af ah))))
 have ag4 : ¬ aH _ b1 := fun h => by have := (Own.ge rX h).1; have := ak ah; omega
 replace aC := dm.af aC
 have ag5 : ¬ aH _ bk := fun h => by have := (Own.ge rX h).1; have := ak aC; omega
 replace ay := dm.af (dE.af ay)
 have ag6 : ¬ aH _ bs := fun h => by have := (Own.ge rX h).1; have := ak ay; omega
 have adD : ¬ aH _ bp40 := fun h => by have := (Own.ge rX h).1; have := ak pU; omega
 have adz : ∀ k, aH _ k → ¬ aH _ k := fun k hk hs => by have := (Own.ge mP hk).2; have := (Own.ge rX hs).1; omega
 replace wF := dm.af (dE.af (df.af wF))
 have ag7 : ¬ aH _ bq := fun h => by have := (Own.ge rX h).1; have := ak wF; omega
 replace ng := ((ng.ai df).ai dE).ai dm
 have afn : ∀ k, aH _ k → ¬ aH _ k := fun k hk hs => by have := (Own.ge ng hk).2; have := (Own.ge rX hs).1; omega
 replace hF := ((((hF.go0 aW).go0 bJ).go0 df).go0 dE).go0 dm
 replace rX := rX.mono (B' := w.heap.size) hF.size
 refine bz ?_
 refine au (akz (e := 5) (by kernel_rfl) (by kernel_rfl) (by kernel_rfl) rX.yZ (by rfl)) ?_
 refine bz ?_
 refine jq (neS _ _ _ _) (fun h => h (by rw [Gs.XJ (.inl rfl)]; rfl)) ?_
 refine aT (aF ?_)
 refine au (bG (l := [(0, 1), (1, 1)]) (z := #[Z.i 0, Z.u 0]) (by kernel_rfl) (by (simp [eH, splice, fU, Value.cells, Gs.cv, Gs.fv, Gs.ie, Gs.pe, Gs.oe, Gs.cZ, Gs.fe, Gs.fE, Gs.ce, Gs.dZ, Gs.re, Gs.de, Gs.ie]; rfl))) ?_
 replace aC := bU.af aC
 refine aB (adw aC (by decide)) (fun w16 bQ => ?_)
 refine Z.e ?_
 refine Z.e ?_
 refine dM (e := 5) (m := 1) (z := #[Z.u 0]) (by kernel_rfl) (by kernel_rfl) (by rfl) (by decide) (by (simp [eH, splice, fU, Value.cells, Gs.cv, Gs.fv, Gs.ie, Gs.pe, Gs.oe, Gs.cZ, Gs.fe, Gs.fE, Gs.ce, Gs.dZ, Gs.re, Gs.de, Gs.ie]; rfl)) (fun b17 uY e17 JX _ dh => ?_)
 replace dB := bQ.af (bU.af dB)
 have an3 : gT ≠ b17 := by have := ak dB; omega
 replace gm := (gm.ai bU).ai bQ
 have amX := gm.apart e17
 replace gu := (gu.ai bU).ai bQ
 have amY := gu.apart e17
 replace ah := bQ.af (bU.af ah)
 have ab5 : b1 ≠ b17 := by have := ak ah; omega
 replace aC := bQ.af aC
 have an4 : bk ≠ b17 := by have := ak aC; omega
 replace ay := bQ.af (bU.af ay)
 have adA : bs ≠ b17 := by have := ak ay; omega
 replace pU := bQ.af (bU.af pU)
 have WX : bp40 ≠ b17 := by have := ak pU; omega
 replace mP := (mP.ai bU).ai bQ
 have Qi := mP.apart e17
 replace wF := bQ.af (bU.af wF)
 have an5 : bq ≠ b17 := by have := ak wF; omega
 replace ng := (ng.ai bU).ai bQ
 have alk := ng.apart e17
 replace rX := rX.ai bQ
 have alm := rX.apart e17
 replace hF := (hF.go0 bU).go0 bQ
 have ajQ : w.heap.size ≤ b17 := by have := hF.size; omega
 replace mP := mP.ai dh
 replace ay := dh.af ay
 replace pU := dh.af pU
 replace hF := hF.go0 dh
 refine aN (Ee (s := s1) (b := [241, 2]) ay pU mP hS1 (by have := hF.size; omega) (Rd.nG (xs := vals .u8 [241, 2]) JX) rfl (by decide) (by unfold Bs; decide) (by decide) (.inr (fun k hk hs => by obtain ⟨a, ea, ek⟩ := hk; cases ea; exact Qi _ hs ek.symm)) (.inr (fun k hk e => by obtain ⟨a, ea, ek⟩ := hk; cases ea; exact WX (e.symm.trans ek.symm))) (.inr (fun k hk e => by obtain ⟨a, ea, ek⟩ := hk; cases ea; exact adA (e.symm.trans ek.symm)))) (fun v18 xh D18 => ?_)
 have En := mP
 have ako := hF.size
 obtain ⟨rfl, bp79, A79, n79, cp79, ay, xE, rC, hn79, hb79, ho79, dO⟩ := D18
 rw [Gs.DJ] at ay xE rC hn79
 rw [Gs.DJ]
 obtain ⟨s2, hs2⟩ : ∃ s2, s2 = Gs.AO s1 2 := ⟨_, rfl⟩
 dsimp only at ay xE rC hn79
 rw [← hs2] at ay xE rC hn79
 have hcu2 : s2.cur = 0 := by subst hs2; exact hcu1
 have hcs2 : s2.cs = List.replicate (Gs.aZ r c).toNat Gs.zc := by subst hs2; exact hcs1
 have hW2 : Gs.Pw s2.r s2.c n79 s2.cs s2.cur := by subst hs2; rw [hn79]; exact (hS1.XT 2).len.2
 clear hs2
 obtain ⟨hn2, hcw2, hcu2', hp2, hN2, hb2⟩ := id hW2
 have hl2 : 0 < (Gs.aZ r c).toNat := by rw [hcs2, List.length_replicate] at hn2; omega
 replace aC := dh.af aC
 replace aC := dO.get aC (fun hs => by rcases hs with (hs | hs) | hs <;> first | (first | exact Own.aS En aC (by decide) _ hs rfl | (have := Own.ge En hs; omega)) | (exact absurd hs (by exact dP (by assumption) (by assumption) (by decide))))
 replace hF := hF.go dO (fun i hi hs => by (rcases hs with (hs | hs) | hs <;> first | (subst hs; omega) | (have := (Own.ge En hs).1; omega)))
 clear En
 refine aN (Jr aC (by decide) (q := ⟨0, decide (2 / 2 % 2 = 1), decide (2 / 4 % 2 = 1), 0⟩)) (fun v19 Aa D19 => ?_)
 obtain ⟨st, why, tn, last, ins, N19, hst, hq1_80, hq0_80, eX⟩ := D19
 replace rC := rC.aG eX (Own.aS rC (by assumption) (by decide))
 replace ay := eX.aj ay (by exact dP (by assumption) (by assumption) (by decide))
 replace xE := eX.aj xE (by exact dP (by assumption) (by assumption) (by decide))
 replace aC := N19
 obtain ⟨rfl, rfl⟩ := hq1_80 (by decide)
 refine au (bG (l := [(0, 1), (1, 1)]) (z := #[Z.i 0, Z.u 0]) (by kernel_rfl) (by (simp [eH, splice, fU, Value.cells, Gs.cv, Gs.fv, Gs.ie, Gs.pe, Gs.oe, Gs.cZ, Gs.fe, Gs.fE, Gs.ce, Gs.dZ, Gs.re, Gs.de, Gs.ie]; rfl))) ?_
 refine aN (Su xE rC hn2 aC ay (x := 193) hp2 hN2 hb2 hcw2 (by decide) (by rw [hcu2, hcs2]; exact (Gs.TD hl2).2) (by rw [hcu2, hcs2]; exact (Gs.TD hl2).1) (by rw [hcu2, hcs2]; rw [Gs.Xf hl2 rfl]; exact Gs.abH rfl _ _) rfl) (fun v20 wY D20 => ?_)
 have Eo := rC
 replace hF := hF.go1 eX Ef
 have aoy := hF.size
 obtain ⟨rfl, xE, rC, dR⟩ := D20
 replace ay := dR.get ay (fun hs => by rcases hs with hs | hs <;> first | (first | exact Own.aS Eo ay (by decide) _ hs rfl | (have := Own.ge Eo hs; omega)) | (exact absurd hs (by exact dP (by assumption) (by assumption) (by decide))))
 replace hF := hF.go dR (fun i hi hs => by (rcases hs with hs | hs <;> first | (subst hs; omega) | (have := (Own.ge Eo hs).1; omega)))
 clear Eo
 refine Z.e ?_
 refine Z.e ?_
 refine rD (cu _ _ _ _ _) (rfl) ?_
 refine aX (aX ?_)
 refine rD (cu _ _ _ _ _) (rfl) ?_
 refine aU (aX (aX ?_))
 refine aB (iL ay) (fun BQ dV => ?_)
 refine aX ?_
 replace rC := rC.ai dV
 replace xE := dV.af xE
 refine aB (iw xE rC (by rw [Gs.DN, Gs.lD]; exact hn2) (i := 0)) (fun Hy gY => ?_)
 refine aX ?_
 refine au (qA (off := 0) (by kernel_rfl) (by rfl)) ?_
 refine aX ?_
 refine rD (cu _ _ _ _ _) (by rw [hcu2, hcs2, Gs.Xf hl2 rfl, Gs.ajj hl2]) ?_
 refine aU ?_
 replace hF := (hF.go0 dV).go0 gY
 exact ⟨rfl, hF⟩
theorem Si {r c : Int} {ds : List Gs.lh} {dA : Option Addr} {dc : Nat} {gT : Nat} {eT : TypeId} {fT : Nat × Nat} {w : World} (hgT : Tryz.prog.globalNamed "internal/strconv.uint64pow10" = some gT) (dB : w.heap[gT]? = some (.cells Gs.xR eT fT)) (gm : Rd w dA (rows Gs.de ds)) (gu : Gs.sO w ds) (hdw : Gs.H9 ds) (hdn : ds.length ≤ maxLen)  :
    oX 7 #[.agg #[Z.i r, Z.i c], .slice dA ds.length dc] w fun e w' => e = .returned (.bool true) ∧ aA no w w' := by
 by_cases hok : Gs.zJ r c ds
 exact MQ hgT dB gm gu hdw hdn hok
 exact MP hgT dB gm gu hdw hdn hok
end Go.Proofs.YtjdoakbadehicaaGreatDoor
end
section
namespace Go.Sh
open Go Go.ChangeShapes Go.WideShapes Go.RowKit
section
variable {H : Type} {enc : TypeId × Value → H} {P : Program} {w : World} {base : Nat} {spare : Nat → Bool} {held : Bool}
theorem Xo {α : Type} {f : α → List Value} {m : Nat} {Q : α → Prop} (hf : Enc f m) {t e : TypeId} (ht : P.underlying t = some (.slice e)) (hc : P.cellsOf e = m) {fuel : Nat} {cs : List Value} {x : DataW H × List MemPlace}
  (hd : ∀ fuel cs x, DataW.trod enc P w base spare held fuel e cs = some x → ∃ a, cs = f a ∧ Q a) (hf1 : DataW.trod enc P w base spare held fuel t cs = some x) :
  ∃ (A : Option Addr) (len cap : Nat) (l : List α), cs = [.slice A len cap] ∧ Rd w A (rows f l) ∧ (∀ a ∈ l, Q a) ∧ len = l.length ∧ len ≤ cap ∧ cap ≤ maxLen := by
 rcases Go.Deep.open_slice ht hf1 with ⟨hcs, _⟩ | ⟨a, len, cap, m', n', D, Pl, hcs, _, hl, hm, hmm, _, hx⟩
 ·exact ⟨none, 0, 0, [], hcs, .inl rfl, (fun a ha => by cases ha), rfl, Nat.le_refl _, Nat.zero_le _⟩
 ·have hlm : len ≤ m' := by rw [hmm]; split <;> omega
  have key : ∀ k, k ≤ len → ∃ l : List α, l.length = k ∧ (∀ a ∈ l, Q a) ∧ ∀ i x, l[i]? = some x → w.cells? base (a.add (i * m)) m = some (f x) := by
   intro k
   induction k with
   | zero => intro _; exact ⟨[], rfl, (fun a ha => by cases ha), fun i x h => by simp at h⟩
   | succ k ih =>
    intro hk
    obtain ⟨l, h1, h2, h3⟩ := ih (by omega)
    obtain ⟨cs', h4, h5⟩ := hx k (by omega)
    obtain ⟨y, rfl, hq⟩ := hd _ _ _ h5
    refine ⟨l ++ [y], by simp [h1], fun b hb => ?_, fun i x hi => ?_⟩
    ·rcases List.mem_append.1 hb with hb | hb
     ·exact h2 b hb
     ·simp at hb; subst hb; exact hq
    ·by_cases hik : i < l.length
     ·rw [List.getElem?_append_left hik] at hi; exact h3 i x hi
     ·rw [List.getElem?_append_right (by omega)] at hi
      have hi0 : i - l.length = 0 := by
       have := (List.getElem?_eq_some_iff.1 hi).1
       simp at this; omega
      rw [hi0] at hi
      simp at hi
      subst hi
      have : i = k := by omega
      subst this
      rw [hc] at h4; exact h4
  obtain ⟨l, h1, h2, h3⟩ := key len (Nat.le_refl _)
  refine ⟨some a, len, cap, l, hcs, .inr ⟨a, rfl, fun j hj => ?_⟩, h2, h1.symm, hl, hm⟩
  rw [iE hf] at hj
  have hm0 := hf.pos
  have hq : j / m < l.length := Nat.div_lt_of_lt_mul (by rw [Nat.mul_comm]; exact hj)
  have hr : j % m < m := Nat.mod_lt _ hm0
  have hj' : j = j / m * m + j % m := by have := Nat.div_add_mod j m; rw [Nat.mul_comm] at this; omega
  have hxl : l[j / m]? = some l[j / m] := List.getElem?_eq_getElem hq
  obtain ⟨_, _, h6⟩ := World.cells?_some (h3 _ _ hxl)
  have h7 := h6 (j % m) hr
  rw [add_add, ← hj'] at h7
  rw [h7, ← PD hf hxl, List.getElem?_take, if_pos hr, List.getElem?_drop, ← hj']
theorem fields_of {fs : Array Field} {t : TypeId} {fuel : Nat} {cs : List Value} {x : DataW H × List MemPlace} (ht : P.underlying t = some (.struct fs)) (h : DataW.trod enc P w base spare held fuel t cs = some x) :
  cs.length = P.cellsOf t ∧ ∃ n, ∀ (i : Nat) (f : Field), fs[i]? = some f → ∃ y, DataW.trod enc P w base spare held n f.type ((cs.drop f.offset).take (P.cellsOf f.type)) = some y := by
 obtain ⟨xs, n, _, _, hl, hx, hf⟩ := DataW.trod_struct ht h
 refine ⟨hl, n, fun i f hi => ?_⟩
 have hlt : i < xs.length := by rw [hx]; exact (Array.getElem?_eq_some_iff.1 hi).1
 exact ⟨xs[i], by rw [hf i f hi]; exact List.getElem?_eq_getElem hlt⟩
end
end Go.Sh
namespace Go.Proofs.YtjdoakbadehicaaGreatDoor
set_option maxRecDepth 100000
set_option linter.constructorNameAsVariable false
open Go Go.Sh Go.ChangeShapes Go.WideShapes Go.RowKit
section
variable {H : Type} {enc : TypeId × Value → H} {w : World} {base : Nat} {spare : Nat → Bool} {held : Bool}
theorem afV {n : Int} (h : (Lit.int .u8 n).wf = true) : 0 ≤ n ∧ n ≤ 255 := by
 have h1 : (decide (0 ≤ n) && decide (n ≤ 255)) = true := h
 simpa using h1
end
theorem Uf : ∀ cs, oK [.int .i64, .int .u8] cs → ∃ a, cs = Gs.kv a ∧ Gs.Kw a := by
 rintro cs ⟨_, _, rfl, ⟨a, rfl, _⟩, ⟨_, _, rfl, ⟨b, rfl, hb⟩, rfl⟩⟩
 exact ⟨(a, b), rfl, afV hb⟩
section
variable {H : Type} {enc : TypeId × Value → H} {w : World} {base : Nat} {spare : Nat → Bool} {held : Bool}
theorem abR {fuel : Nat} {cs : List Value} {x : DataW H × List MemPlace} (h : DataW.trod enc Tryz.prog w base spare held fuel 118 cs = some x) : ∃ d : Gs.lh, cs = Gs.de d ∧ Rd w d.A (vals .u8 d.b) ∧ Gs.Dw1 d := by
 obtain ⟨hl, n, hf⟩ := fields_of Tryz.underlying118 h
 rw [show Tryz.prog.cellsOf 118 = 3 by kernel_rfl] at hl
 obtain ⟨y0, h0⟩ := hf 0 _ rfl
 obtain ⟨y1, h1⟩ := hf 1 _ rfl
 replace h0 : DataW.trod enc Tryz.prog w base spare held n 24 ((cs.drop 0).take (Tryz.prog.cellsOf 24)) = some y0 := h0
 rw [show Tryz.prog.cellsOf 24 = 1 by kernel_rfl] at h0
 replace h1 : DataW.trod enc Tryz.prog w base spare held n 45 ((cs.drop 1).take (Tryz.prog.cellsOf 45)) = some y1 := h1
 rw [show Tryz.prog.cellsOf 45 = 2 by kernel_rfl] at h1
 match cs, hl with
 | [a, b, c], _ =>
  obtain ⟨A, len, cap, l, ha, rd, hq, hn, hc, _⟩ := Xo (encI .u8) Tryz.underlying24 (by kernel_rfl) (Q := fun a : Int => (Lit.int .u8 a).wf = true) (fun fuel cs x hx => adE .u8 _ (Bi 3 fuel 5 _ cs x (by kernel_rfl) hx)) h0
  obtain ⟨q, hb, hkw⟩ := Uf _ (Bi 3 n 45 _ _ _ (by kernel_rfl) h1)
  simp only [List.drop_zero, List.take_succ_cons, List.take_zero, List.cons.injEq, and_true] at ha
  simp only [List.drop_succ_cons, List.drop_zero, List.take_succ_cons, List.take_zero, Gs.kv, List.cons.injEq, and_true] at hb
  obtain ⟨rfl, rfl⟩ := hb
  subst ha hn
  rw [ag8] at rd
  exact ⟨⟨A, cap, l, q.1, q.2⟩, rfl, rd, hc, fun x hx => afV (hq x hx), hkw⟩
theorem Nz {r : Reach} {b0 : Nat} {v : Value} {d : DataW H} {ps : List MemPlace} (hval : Value.okWide Tryz.prog w r b0 57 v) (h : DataW.Trod enc Tryz.prog w base spare held 57 v d ps) :
  ∃ (A : Option Addr) (c : Nat) (l : List Gs.lh), v = .slice A l.length c ∧ Rd w A (rows Gs.de l) ∧ Gs.sO w l ∧ Gs.H9 l ∧ l.length ≤ maxLen := by
 obtain ⟨A, len, cap, rfl⟩ := okWide_slice Tryz.underlying57 hval
 obtain ⟨fuel, h⟩ := h
 obtain ⟨A2, len2, cap2, l, he, rd, hq, hn, hcp, hmx⟩ := Xo Gs.afX Tryz.underlying57 (by kernel_rfl) (Q := fun d : Gs.lh => Rd w d.A (vals .u8 d.b) ∧ Gs.Dw1 d) (fun fuel cs x hx => abR hx) h
 simp only [Value.cells, List.cons.injEq, Value.slice.injEq, and_true] at he
 obtain ⟨rfl, rfl, rfl⟩ := he
 subst hn
 exact ⟨A, cap, l, rfl, rd, fun x hx => (hq x hx).1, fun x hx => (hq x hx).2, Nat.le_trans hcp hmx⟩
end
end Go.Proofs.YtjdoakbadehicaaGreatDoor
end
