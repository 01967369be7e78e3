/- Part of a proof. No condition but those that its theorems state. -/
import Derived.Test.YtjdoakbadehicaaGreatDoorQc
import Derived.Test.YtjdoakbadehicaaGreatDoorQf
import Derived.Test.YtjdoakbadehicaaGreatDoorQd
import Derived.Test.YtjdoakbadehicaaGreatDoorProg
import Derived.Test.YtjdoakbadehicaaGreatDoorQa
import Derived.KernelRfl
import Derived.WalkKit
import Derived.Lib.Builder
import Derived.Laws.Externs
import Derived.Lib.AppendStr
import Derived.Shelf.RegionOpenPlain
import Derived.Test.YtjdoakbadehicaaGreatDoorQg
set_option linter.unusedVariables false
set_option linter.unusedSimpArgs false
section
namespace Go.Proofs.YtjdoakbadehicaaGreatDoor
open Go Go.Sh
set_option maxRecDepth 100000
theorem aaj {b : Int} {w : World} :
    oX 10 #[Z.u b] w fun e w' => e = .returned (.bool (decide (b = 109 ∨ b = 108 ∨ b = 110 ∨ b = 107))) ∧ aA no w w' := by
 refine F10.calls ?_
 unfold F10
 have hF : aA no w w := Fr.refl _ _ _
 refine aB (BZ) (fun w1 U1 => ?_)
 refine az (neS _ _ _ _) (fun h2 => ?_) (fun h2 => ?_)
 refine aX (aX ?_)
 refine ak (kR _ _ _ _ _) ?_
 refine aT ?_
 replace hF := hF.go0 U1
 exact ⟨(congrArg (fun q => Ending.returned (Value.bool q)) (Gs.agU (by assumption))), hF⟩
 refine aQ (aQ (aU ?_))
 replace hF := hF.go0 U1
 exact ⟨(congrArg (fun q => Ending.returned (Value.bool q)) (Gs.agV (by assumption))), hF⟩
theorem Nw {c : Gs.Cell} {w : World} :
    oX 142 #[.agg (Gs.cv c).toArray] w fun e w' => e = .returned (.bool (Gs.pV c)) ∧ aA no w w' := by
 refine YJ.calls ?_
 unfold YJ
 have hF : aA no w w := Fr.refl _ _ _
 refine Z.x ((Gs.cv c).toArray) (fun b1 w1 e1 ah _ U1 => ?_)
 refine Z.f 0 ?_
 refine Z.l ah ?_
 refine az (cZ _ _ _ _ _) (fun h2 => ?_) (fun h2 => ?_)
 refine aX ?_
 refine Z.f 1 ?_
 refine aX ?_
 refine Z.l ah ?_
 refine aX ?_
 refine ak (Ac _) ?_
 refine aT ?_
 replace hF := hF.go0 U1
 exact ⟨(congrArg (fun q => Ending.returned (Value.bool q)) (Gs.agS (by assumption))), hF⟩
 refine aQ (aQ (aQ (aU ?_)))
 replace hF := hF.go0 U1
 exact ⟨(congrArg (fun q => Ending.returned (Value.bool q)) (Gs.agT (by assumption))), hF⟩
theorem Ny {c : Gs.Cell} {w : World} :
    oX 69 #[.agg (Gs.cv c).toArray] w fun e w' => ∃ v, e = .returned v ∧ Own w.heap.size w' 5 1 v (vals .u8 (Gs.rf c)) ∧ aA no w w' := by
 refine F69.calls ?_
 unfold F69
 have hF : aA no w w := Fr.refl _ _ _
 refine Z.x ((Gs.cv c).toArray) (fun b1 w1 e1 ah _ U1 => ?_)
 have bZ : w.heap.size ≤ b1 := by have := hF.size; omega
 refine Z.f 1 ?_
 refine pK (kZ (by kernel_rfl) ah (by rfl)) (fun h2 => ?_) (fun h2 => ?_)
 refine aX ?_
 refine Z.f 0 ?_
 refine aX ?_
 refine Z.l ah ?_
 refine aX ?_
 refine az (lss _ _ _ _) (fun h3 => ?_) (fun h3 => ?_)
 refine aT (aJ ?_)
 refine dN (e := 5) (m := 1) (z := #[Z.u 0]) (by kernel_rfl) (by kernel_rfl) (by rfl) (by decide) (by (simp [eP, splice, gu, Value.cells, Gs.cv, Gs.fv, Gs.ie]; rfl)) (fun b4 w4 e4 eu _ U4 => ?_)
 have oO : b1 ≠ b4 := by have := au ah; omega
 replace hF := hF.go0 U1
 have nZ : w.heap.size ≤ b4 := by have := hF.size; omega
 replace hF := hF.go0 U4
 exact ⟨_, rfl, by rw [Gs.ady (by assumption) (by assumption)]; exact Own.of_block (n := 2) (xs := [_, _]) (by assumption) (by omega) rfl (by decide), hF⟩
 refine aT (aC ?_)
 refine Z.f 1 ?_
 refine pK (kZ (by kernel_rfl) ah (by rfl)) (fun h6 => ?_) (fun h6 => ?_)
 refine aJ ?_
 refine Z.f 0 ?_
 refine Z.l ah ?_
 refine dN (e := 5) (m := 1) (z := #[Z.u 0]) (by kernel_rfl) (by kernel_rfl) (by rfl) (by decide) (by (simp [eP, splice, gu, Value.cells, Gs.cv, Gs.fv, Gs.ie]; rfl)) (fun b7 w7 e7 kW _ U7 => ?_)
 have Fh : b1 ≠ b7 := by have := au ah; omega
 replace hF := hF.go0 U1
 have uH : w.heap.size ≤ b7 := by have := hF.size; omega
 replace hF := hF.go0 U7
 exact ⟨_, rfl, by rw [Gs.adz (by assumption) (by assumption)]; exact Own.of_block (n := 2) (xs := [_, _]) (by assumption) (by omega) rfl (by decide), hF⟩
 refine aC ?_
 refine Z.f 0 ?_
 refine Z.l ah ?_
 refine dQ (qU) (fun w9 U9 h9 => ?_) (fun w9 U9 h9 => ?_)
 refine ak (lV) ?_
 refine aC ?_
 refine Z.f 0 ?_
 replace ah := U9.af ah
 refine Z.l ah ?_
 refine dN (e := 5) (m := 1) (z := #[Z.u 0]) (by kernel_rfl) (by kernel_rfl) (by rfl) (by decide) (by (simp [eP, splice, gu, Value.cells, Gs.cv, Gs.fv, Gs.ie]; rfl)) (fun b10 w10 e10 LX _ aY => ?_)
 have Ih : b1 ≠ b10 := by have := au ah; omega
 replace hF := (hF.go0 U1).go0 U9
 have RD : w.heap.size ≤ b10 := by have := hF.size; omega
 replace hF := hF.go0 aY
 exact ⟨_, rfl, by rw [Gs.TS (by assumption) (by simp_all)]; exact Own.of_block (n := 1) (xs := [_]) (by assumption) (by omega) rfl (by decide), hF⟩
 refine ak (nI) ?_
 refine aJ ?_
 refine dN (e := 5) (m := 1) (z := #[Z.u 0]) (by kernel_rfl) (by kernel_rfl) (by rfl) (by decide) (by (simp [eP, splice, gu, Value.cells, Gs.cv, Gs.fv, Gs.ie]; rfl)) (fun b12 w12 e12 bT _ di => ?_)
 replace ah := U9.af ah
 have acf : b1 ≠ b12 := by have := au ah; omega
 replace hF := (hF.go0 U1).go0 U9
 have sJ : w.heap.size ≤ b12 := by have := hF.size; omega
 replace hF := hF.go0 di
 exact ⟨_, rfl, by rw [Gs.TR (by assumption) (by simp_all)]; exact Own.of_block (n := 1) (xs := [_]) (by assumption) (by omega) rfl (by decide), hF⟩
 refine aQ (aQ (aQ (aU (aC ?_))))
 refine Z.f 1 ?_
 refine pK (kZ (by kernel_rfl) ah (by rfl)) (fun h14 => ?_) (fun h14 => ?_)
 refine aJ ?_
 refine Z.f 0 ?_
 refine Z.l ah ?_
 refine dN (e := 5) (m := 1) (z := #[Z.u 0]) (by kernel_rfl) (by kernel_rfl) (by rfl) (by decide) (by (simp [eP, splice, gu, Value.cells, Gs.cv, Gs.fv, Gs.ie]; rfl)) (fun b15 uG e15 gV _ bW => ?_)
 have amv : b1 ≠ b15 := by have := au ah; omega
 replace hF := hF.go0 U1
 have wM : w.heap.size ≤ b15 := by have := hF.size; omega
 replace hF := hF.go0 bW
 exact absurd (Eq.trans (Eq.symm (show c.ge = true by assumption)) (show c.ge = false by assumption)) (by decide)
 refine aC ?_
 refine Z.f 0 ?_
 refine Z.l ah ?_
 refine dQ (qU) (fun uS df h17 => ?_) (fun uS df h17 => ?_)
 refine ak (lV) ?_
 refine aC ?_
 refine Z.f 0 ?_
 replace ah := df.af ah
 refine Z.l ah ?_
 refine dN (e := 5) (m := 1) (z := #[Z.u 0]) (by kernel_rfl) (by kernel_rfl) (by rfl) (by decide) (by (simp [eP, splice, gu, Value.cells, Gs.cv, Gs.fv, Gs.ie]; rfl)) (fun b18 xx e18 Ye _ dM => ?_)
 have aaW : b1 ≠ b18 := by have := au ah; omega
 replace hF := (hF.go0 U1).go0 df
 have air : w.heap.size ≤ b18 := by have := hF.size; omega
 replace hF := hF.go0 dM
 exact ⟨_, rfl, by rw [Gs.TS (by assumption) (by simp_all)]; exact Own.of_block (n := 1) (xs := [_]) (by assumption) (by omega) rfl (by decide), hF⟩
 refine ak (nI) ?_
 refine aJ ?_
 refine dN (e := 5) (m := 1) (z := #[Z.u 0]) (by kernel_rfl) (by kernel_rfl) (by rfl) (by decide) (by (simp [eP, splice, gu, Value.cells, Gs.cv, Gs.fv, Gs.ie]; rfl)) (fun b20 xu e20 h_b20 _ dR => ?_)
 replace ah := df.af ah
 have amw : b1 ≠ b20 := by have := au ah; omega
 replace hF := (hF.go0 U1).go0 df
 have ge_b20 : w.heap.size ≤ b20 := by have := hF.size; omega
 replace hF := hF.go0 dR
 exact ⟨_, rfl, by rw [Gs.TR (by assumption) (by simp_all)]; exact Own.of_block (n := 1) (xs := [_]) (by assumption) (by omega) rfl (by decide), hF⟩
theorem Nz {r c cur : Int} {A : Option Addr} {n cp bp B0 : Nat} {cs : List Gs.Cell} {w : World} (ag : Z.h w bp #[Z.i r, Z.i c, .slice A n cp, Z.i cur] 91) (ae : Own B0 w 37 5 (.slice A n cp) (rows Gs.cv cs)) (hn : n = cs.length) {i : Int} :
    oX 67 #[Z.p bp, Z.i i] w fun e w' => ∃ v, e = .returned v ∧ ∃ A' c', v = .slice A' 2 c' ∧ Rd w' A' (vals .u8 [(Gs.pI i n).1, (Gs.pI i n).2.1]) ∧ uQ A' (vals .u8 [(Gs.pI i n).1, (Gs.pI i n).2.1]) w.heap.size ∧ aA no w w' := by
 refine F67.calls ?_
 unfold F67
 have hF : aA no w w := Fr.refl _ _ _
 refine aB (fG ag ae hn) (fun w1 U1 => ?_)
 refine aB (QK (p := i) (n := n)) (fun w2 U2 => ?_)
 refine Z.e ?_
 refine Z.e ?_
 refine Z.n (#[Z.u 0, Z.u 0]) (fun b3 w3 e3 bC _ U3 => ?_)
 replace hF := (hF.go0 U1).go0 U2
 have jF : w.heap.size ≤ b3 := by have := hF.size; omega
 refine Z.t 2 (#[Z.u (Gs.pI i n).1, Z.u (Gs.pI i n).2.1]) (by (simp [Value.cells, Value.oneCell', Gs.cv, Gs.fv, Gs.ie]; done)) bC (fun w4 bC _ U4 => ?_)
 refine ak (adB (n := 2) (m := 1) (by kernel_rfl)) ?_
 replace hF := (hF.go0 U3).go1 U4 jF
 exact ⟨_, rfl, _, _, rfl, Rd.nS (xs := vals .u8 [(Gs.pI i n).1, (Gs.pI i n).2.1]) bC, .inr (fun k ⟨a, ea, ek⟩ => by cases ea; subst ek; show _ ≤ _; omega), hF⟩
theorem aak {r c cur : Int} {A : Option Addr} {n cp bp B0 : Nat} {cs : List Gs.Cell} {w : World} (ag : Z.h w bp #[Z.i r, Z.i c, .slice A n cp, Z.i cur] 91) (ae : Own B0 w 37 5 (.slice A n cp) (rows Gs.cv cs)) (hn : n = cs.length) (hb : n ≤ 4096)  :
    oX 99 #[Z.p bp] w fun e w' => ∃ v, e = .returned v ∧ Own w.heap.size w' 5 1 v (vals .u8 (Gs.lW cs (Gs.ja cs))) ∧ aA no w w' := by
 refine F99.calls ?_
 unfold F99
 subst hn
 have xy := au ag
 have l9 := Own.lt ae
 have hF : aA no w w := Fr.refl _ _ _
 refine bM (fun g w' => ∃ (v3 : Value), (g 3 = v3) ∧ (Own w.heap.size w' 5 1 v3 (vals .u8 (Gs.lW cs (Gs.ja cs)))) ∧ (aA no w w')) (fun J1 hJ1 => ?_) (fun gJ1 jT hI => ?_)
 refine aB (fG ag ae rfl) (fun w1 U1 => ?_)
 refine ed (fun g w' => ∃ (k : Nat) (v3 : Value), (g 8 = Z.i (k : Int)) ∧ (k ≤ cs.length) ∧ (g 3 = v3) ∧ (Own w.heap.size w' 5 1 v3 (vals .u8 (Gs.lW cs ((Gs.ja cs).take k)))) ∧ (Z.h w' bp #[Z.i r, Z.i c, .slice A cs.length cp, Z.i cur] 91) ∧ (Own B0 w' 37 5 (.slice A cs.length cp) (rows Gs.cv cs)) ∧ (aA no w w')) (fun g w' => cs.length - (RowKit.intOf (g 8)).toNat) ?_ (fun g2 qK hI => ?_)
 replace ae := ae.ai U1
 replace ag := U1.af ag
 replace hF := hF.go0 U1
 exact ⟨0, _, (by rfl), Nat.zero_le _, rfl, (Own.nil _ _ _ _), ag, ae, hF⟩
 replace ae := ae.ai U1
 replace ag := U1.af ag
 replace hF := hF.go0 U1
 obtain ⟨k, v3, g8, hk, g3, bI, ag, ae, hF⟩ := hI
 rw [g8]
 rw [g3]
 have hfl := Gs.FZ cs ((Gs.ja cs).take k)
 rw [List.length_take, Gs.zu] at hfl
 refine az (lss _ _ _ _) (fun h2 => ?_) (fun h2 => ?_)
 refine aJ ?_
 refine bM (fun g w' => ∃ (v3 : Value), (g 3 = v3) ∧ (Own w.heap.size w' 5 1 v3 (vals .u8 (Gs.lW cs ((Gs.ja cs).take (k + 1))))) ∧ (Z.h w' bp #[Z.i r, Z.i c, .slice A cs.length cp, Z.i cur] 91) ∧ (Own B0 w' 37 5 (.slice A cs.length cp) (rows Gs.cv cs)) ∧ (aA no w w')) (fun J3 hJ3 => ?_) (fun gJ3 JO hI => ?_)
 refine aB (iF ag ae rfl (i := (k : Int))) (fun w3 U3 => ?_)
 refine Z.n ((Gs.cv Gs.zc).toArray) (fun b4 w4 e4 eu _ U4 => ?_)
 replace bI := bI.ai U3
 have Gw := bI.apart e4
 replace ag := U3.af ag
 have tC : bp ≠ b4 := by have := au ag; omega
 replace ae := ae.ai U3
 have oW := ae.apart e4
 replace hF := hF.go0 U3
 have nZ : w.heap.size ≤ b4 := by have := hF.size; omega
 refine Z.t 5 ((Gs.cv (Gs.bV cs k)).toArray) (by (simp [Value.cells, Value.oneCell', Gs.cv, Gs.fv, Gs.ie]; done)) eu (fun w5 eu _ U5 => ?_)
 refine Z.b 5 ((Gs.cv (Gs.bV cs k)).toArray) eu ?_
 refine dQ (Nw) (fun w6 U6 h6 => ?_) (fun w6 U6 h6 => ?_)
 refine ak (lV) ?_
 refine aC ?_
 refine hJ3 _ _ ?_
 replace bI := ((bI.ai U4).aF U5 Gw).ai U6
 replace ae := ((ae.ai U4).aF U5 oW).ai U6
 replace ag := U6.af (U5.aj (U4.af ag) tC)
 replace hF := ((hF.go0 U4).go1 U5 nZ).go0 U6
 exact ⟨_, (by exact g3), (by (rw [← Gs.agW (by omega) (by assumption)]; exact bI)), ag, ae, hF⟩
 refine ak (nI) ?_
 refine aJ ?_
 replace eu := U6.af eu
 refine Z.b 5 ((Gs.cv (Gs.bV cs k)).toArray) eu ?_
 refine aN (Ny) (fun v7 w7 D7 => ?_)
 obtain ⟨Ba, U7⟩ := D7
 obtain ⟨A19, c19, rfl, _⟩ := Ba.bH
 replace bI := ((bI.ai U4).aF U5 Gw).ai U6
 have O0 : ∀ k, aH _ k → ¬ aH _ k := fun k hk hs => by have := (Own.ge bI hk).2; have := (Own.ge Ba hs).1; omega
 replace ag := U6.af (U5.aj (U4.af ag) tC)
 have ahH : ¬ aH _ bp := fun h => by have := (Own.ge Ba h).1; have := au ag; omega
 replace ae := ((ae.ai U4).aF U5 oW).ai U6
 have afV : ∀ k, aH _ k → ¬ aH _ k := fun k hk hs => by have := (Own.ge ae hk).2; have := (Own.ge Ba hs).1; omega
 have ahI : ¬ aH _ b4 := fun h => by have := (Own.ge Ba h).1; have := au eu; omega
 replace hF := ((hF.go0 U4).go1 U5 nZ).go0 U6
 replace Ba := Ba.mono (B' := w.heap.size) hF.size
 have hbl := Gs.IK (Gs.bV cs k)
 replace bI := bI.ai U7
 replace hF := hF.go0 U7
 refine kV (e := 5) (size := 1) (bytes := 1) (by kernel_rfl) bI Ba.Bl (by (simp [vals_length]; done)) uZ (by simp only [vals_length, List.length_take, List.length_cons, List.length_nil, List.length_append, List.length_map, List.length_range]; omega) (by have := hF.size; omega) (fun v8 w8 N8 hA8 U8 => ?_)
 have fQ := bI
 have amx := IC (S' := w7) (fun k hk hs => O0 k hs hk) Ba hA8
 replace eu := U7.af eu
 have nc8_b4 : ∀ k, aH v8 k → k ≠ b4 := fun k hk e => Or.elim (hA8 k hk) (fun h => Gw k h e) (fun h => by have := au eu; omega)
 replace bI := N8
 replace ag := U7.af ag
 replace ag := U8.get ag (fun h => by (have := Own.ge fQ h; omega))
 replace ae := ae.ai U7
 replace ae := ae.dX U8 (fun k hk hs => by have := l9 k hk; have := (Own.ge fQ hs).1; omega)
 replace hF := hF.go U8 (fun i h hs => by (have := (Own.ge fQ hs).1; omega))
 clear fQ
 refine hJ3 _ _ ?_
 exact ⟨_, (by rfl), (by (rw [← Gs.agX (by omega) (by assumption), ← zB]; exact bI)), ag, ae, hF⟩
 obtain ⟨v3, g3, bI, ag, ae, hF⟩ := hI
 refine ak (dK _ (by omega)) ?_
 exact ⟨⟨k + 1, _, (by rfl), by omega, (by exact g3), bI, ag, ae, hF⟩, cnt_lt (by rfl) rfl (by omega)⟩
 refine aC ?_
 refine hJ1 _ _ ?_
 exact ⟨_, (by exact g3), (by rw [List.take_of_length_le (by rw [Gs.zu]; omega)] at bI; exact bI), hF⟩
 obtain ⟨v3, g3, bI, hF⟩ := hI
 rw [g3]
 exact ⟨_, rfl, bI, hF⟩
set_option maxHeartbeats 2000000 in
theorem VP {r c cur : Int} {A : Option Addr} {n cp bp B0 : Nat} {cs : List Gs.Cell} {w : World} (ag : Z.h w bp #[Z.i r, Z.i c, .slice A n cp, Z.i cur] 91) (ae : Own B0 w 37 5 (.slice A n cp) (rows Gs.cv cs)) (hn : n = cs.length) (hN : Gs.aZ r c = n) (hb : n ≤ 4096) (hcw : Gs.jh cs)  :
    oX 98 #[Z.p bp] w fun e w' => ∃ v, e = .returned v ∧ Own w.heap.size w' 5 1 v (vals .u8 (Gs.ww cs (Gs.bU cs).length)) ∧ aA no w w' := by
 refine F98.calls ?_
 unfold F98
 subst hn
 have xy := au ag
 have l9 := Own.lt ae
 have hF : aA no w w := Fr.refl _ _ _
 refine Z.x _ (fun b1 w1 e1 ah _ U1 => ?_)
 have kX : bp ≠ b1 := by have := au ag; omega
 have iq := ae.apart e1
 have bZ : w.heap.size ≤ b1 := by have := hF.size; omega
 refine Z.n (#[.slice none 0 0]) (fun b2 w2 e2 ax _ U2 => ?_)
 replace ag := U1.af ag
 have eU : bp ≠ b2 := by have := au ag; omega
 replace ae := ae.ai U1
 have dF := ae.apart e2
 have lI : b1 ≠ b2 := by have := au ah; omega
 replace hF := hF.go0 U1
 have eQ : w.heap.size ≤ b2 := by have := hF.size; omega
 refine bM (fun g w' => ∃ (D2 : Nat) (v3 : Value), (g 1000000 = mkV D2 undef) ∧ (w.heap.size ≤ D2) ∧ (w'.heap[D2]? = some (.deferred (some []))) ∧ (Z.h w' b2 #[v3] 24) ∧ (Own w.heap.size w' 5 1 v3 (vals .u8 (Gs.ww cs (Gs.bU cs).length))) ∧ (aA no w w')) (fun J1 hJ1 => ?_) (fun gJ1 jT hI => ?_)
 replace ah := U2.af ah
 refine Z.l ah ?_
 replace ae := ae.ai U2
 replace ag := U2.af ag
 refine aN (wF ag ae rfl) (fun v3 w3 D3 => ?_)
 obtain ⟨b1_8, rfl, g1_8, dm, U3⟩ := D3
 have aln : bp ≠ b1_8 := by have := au ag; omega
 have ahU : ∀ k, aH _ k → k ≠ b1_8 := fun k hk => by have := (Own.ge ae hk).2; omega
 have alo : b1 ≠ b1_8 := by have := au ah; omega
 have NC : b2 ≠ b1_8 := by have := au ax; omega
 replace hF := hF.go0 U2
 have ge_b1_8 : w.heap.size ≤ b1_8 := by have := hF.size; omega
 refine tJ (by kernel_rfl) (fun w4 l2 D2 Rdy2 Bsy2 Dn2 y2 eD el bg bz lp1 lp2 lp3 sz4 U4 hY => ?_)
 have lp2_2 := lp2
 replace ag := U3.af ag
 have SG : bp ≠ D2 := by have := au ag; omega
 have ig : bp ≠ l2 := by have := au ag; omega
 replace ae := ae.ai U3
 have rP : ∀ k, aH _ k → k ≠ D2 := fun k hk => by have := (Own.ge ae hk).2; omega
 have eH : ∀ k, aH _ k → k ≠ l2 := fun k hk => by have := (Own.ge ae hk).2; omega
 replace ah := U3.af ah
 have SH : b1 ≠ D2 := by have := au ah; omega
 have iD : b1 ≠ l2 := by have := au ah; omega
 replace ax := U3.af ax
 have tN : b2 ≠ D2 := by have := au ax; omega
 have gq : b2 ≠ l2 := by have := au ax; omega
 have alp : b1_8 ≠ D2 := by have := au dm; omega
 have Bc : b1_8 ≠ l2 := by have := au dm; omega
 replace hF := hF.go0 U3
 have nz : w.heap.size ≤ D2 := by have := hF.size; omega
 have jC : w.heap.size ≤ l2 := by have := hF.size; omega
 have fB : D2 ≠ l2 := by omega
 replace ae := ae.ai U4
 replace ag := U4.af ag
 replace ah := U4.af ah
 replace ax := U4.af ax
 replace dm := U4.af dm
 replace hF := hF.go0 U4
 refine Calls.mono (uj (b1 := b1_8) (csF := (fun _ => cs)) (J := (fun (k : Nat) (w' : World) => ∃ (v3 : Value), (Z.h w' b2 #[v3] 24) ∧ (Own w.heap.size w' 5 1 v3 (vals .u8 (Gs.ww cs k))) ∧ (Z.h w' b1 #[Z.p bp] 33) ∧ (Z.h w' bp #[Z.i r, Z.i c, .slice A cs.length cp, Z.i cur] 91) ∧ (Own B0 w' 37 5 (.slice A cs.length cp) (rows Gs.cv cs)) ∧ (Z.h w' b1_8 #[Z.p bp] 33) ∧ (w'.heap[D2]? = some (.deferred (some []))) ∧ (w'.heap[l2]? = some Rdy2) ∧ (aA no w w'))) (X := (fun _ => False)) (fun _ w' hJ => by obtain ⟨v3, ax, bI, ah, ag, ae, dm, bg, bz, hF⟩ := hJ; exact ⟨dm, ag, ae⟩) (fun _ w' w'' hJ U' => by obtain ⟨v3, ax, bI, ah, ag, ae, dm, bg, bz, hF⟩ := hJ; exact ⟨v3, U'.af ax, bI.ai U', U'.af ah, U'.af ag, ae.ai U', U'.af dm, U'.af bg, U'.af bz, hF.go0 U'⟩) (fun _ _ h _ => h.elim) (fun _ => rfl) (fun _ => hcw) (fun _ _ => rfl) hN hb ?_ ?_) ?_
 intro k qK xk hx hI
 obtain ⟨v3, ax, bI, ah, ag, ae, dm, bg, bz, hF⟩ := hI
 have hk := (List.getElem?_eq_some_iff.1 hx).1
 have hsl := Gs.ul cs
 have hol := Gs.TT hb k
 have hxm1 := Gs.qc.1 (List.mem_of_getElem? hx)
 have hpl := Gs.Dj cs.length (Gs.kC cs xk)
 refine hY [.agg (Gs.fv (Gs.kC cs xk)).toArray] _ _ rfl bz ?_
 simp only [List.getD_cons_zero, List.getD_cons_succ]
 refine Z.n ((Gs.fv Gs.zf).toArray) (fun b5 w5 e5 bY _ U5 => ?_)
 have mQ : b2 ≠ b5 := by have := au ax; omega
 have Bd := bI.apart e5
 have gB : b1 ≠ b5 := by have := au ah; omega
 have jW : bp ≠ b5 := by have := au ag; omega
 have jr := ae.apart e5
 have aal : b1_8 ≠ b5 := by have := au dm; omega
 have BR : D2 ≠ b5 := by have := au bg; omega
 have BU : l2 ≠ b5 := by have := au bz; omega
 have ik : w.heap.size ≤ b5 := by have := hF.size; omega
 refine Z.t 3 ((Gs.fv (Gs.kC cs xk)).toArray) (by (simp [Value.cells, Value.oneCell', Gs.cv, Gs.fv, Gs.ie]; done)) bY (fun w6 bY _ U6 => ?_)
 replace bz := U6.aj (U5.af bz) BU
 refine wE bz (fun w7 bz _ U7 => ?_)
 replace bI := (bI.ai U5).aF U6 Bd
 replace ae := (ae.ai U5).aF U6 jr
 replace ax := U6.aj (U5.af ax) mQ
 replace ah := U6.aj (U5.af ah) gB
 replace ag := U6.aj (U5.af ag) jW
 replace dm := U6.aj (U5.af dm) aal
 replace bg := U6.aj (U5.af bg) BR
 replace hF := (hF.go0 U5).go1 U6 ik
 replace bI := bI.aF U7 (Own.iP bI (by assumption) (by assumption))
 refine Z.f 2 ?_
 replace bY := U7.aj bY (Ne.symm BU)
 refine Z.l bY ?_
 refine dQ (Dk (Gs.SN hcw xk)) (fun w8 U8 h8 => ?_) (fun w8 U8 h8 => ?_)
 simp only [Z.d, Z.c] at h8
 refine ak (lV) ?_
 refine aC ?_
 replace ax := U8.af (U7.aj ax gq)
 have gB_h_b2 := au ax
 replace bI := bI.ai U8
 have gB_own3 := Own.lt bI
 replace ah := U8.af (U7.aj ah iD)
 have gB_h_b1 := au ah
 replace ag := U8.af (U7.aj ag ig)
 have gB_h_bp := au ag
 replace ae := (ae.aF U7 eH).ai U8
 have gB_own_p := Own.lt ae
 replace dm := U8.af (U7.aj dm Bc)
 have gB_h_b1_8 := au dm
 replace bg := U8.af (U7.aj bg fB)
 have gB_h_D2 := au bg
 replace bz := U8.af bz
 have gB_h_l2 := au bz
 replace bY := U8.af bY
 have gB_h_b5 := au bY
 have oG_own3 := bI
 have gN_h_b2 : ¬ aH (v3) b2 := (fun h => Own.aS bI ax (by decide) _ h rfl)
 have gN_h_b1 : ¬ aH (v3) b1 := (fun h => Own.aS bI ah (by decide) _ h rfl)
 have gN_h_bp : ¬ aH (v3) bp := (fun h => Own.aS bI ag (by decide) _ h rfl)
 have gN_h_b1_8 : ¬ aH (v3) b1_8 := (fun h => Own.aS bI dm (by decide) _ h rfl)
 have gN_h_D2 : ¬ aH (v3) D2 := (fun h => Own.kT bI bg _ h rfl)
 replace hF := (hF.go1 U7 jC).go0 U8
 have gN_h_l2 : ¬ aH (v3) l2 := (fun h => Own.iP bI bz (by assumption) _ h rfl)
 have gN_h_b5 : ¬ aH (v3) b5 := (fun h => Bd _ h rfl)
 refine dS (S := fun k => aH (v3) k ∨ w8.heap.size ≤ k) (fun w9 U9 => ?_)
 have zz9 := U9.size
 replace ax := U9.af ax
 refine bJ (fun w' hw' => by have ax := hw'.get ax (fun hs => Or.elim (show aH _ _ ∨ _ ≤ _ from hs) gN_h_b2 (fun h => by have := gB_h_b2; omega)); exact (kZ (by kernel_rfl) ax (by rfl))) ?_
 replace ah := U9.af ah
 refine bJ (fun w' hw' => by have ah := hw'.get ah (fun hs => Or.elim (show aH _ _ ∨ _ ≤ _ from hs) gN_h_b1 (fun h => by have := gB_h_b1; omega)); exact (kZ (by kernel_rfl) ah (by rfl))) ?_
 refine bJ (fun w' hw' => by have ah := hw'.get ah (fun hs => Or.elim (show aH _ _ ∨ _ ≤ _ from hs) gN_h_b1 (fun h => by have := gB_h_b1; omega)); exact (kZ (by kernel_rfl) ah (by rfl))) ?_
 refine Z.g 0 ?_
 replace bY := U9.af bY
 refine bJ (fun w' hw' => by have bY := hw'.get bY (fun hs => Or.elim (show aH _ _ ∨ _ ≤ _ from hs) gN_h_b5 (fun h => by have := gB_h_b5; omega)); exact (kZ (by kernel_rfl) bY (by rfl))) ?_
 refine aI (fun w10 aY => ?_)
 have zz10 := aY.size
 refine jm ?_
 refine dN (e := 5) (m := 1) (z := #[Z.u 0]) (by kernel_rfl) (by kernel_rfl) (by rfl) (by decide) (by (simp [eP, splice, gu, Value.cells, Gs.cv, Gs.fv, Gs.ie]; rfl)) (fun b11 nR e11 jL _ bK => ?_)
 replace ax := aY.af ax
 have acg : b2 ≠ b11 := by have := au ax; omega
 replace bI := (bI.ai U9).ai aY
 have JY := bI.apart e11
 replace ah := aY.af ah
 have Ib : b1 ≠ b11 := by have := au ah; omega
 replace ag := aY.af (U9.af ag)
 have amy : bp ≠ b11 := by have := au ag; omega
 replace ae := (ae.ai U9).ai aY
 have ajN := ae.apart e11
 replace dm := aY.af (U9.af dm)
 have akL : b1_8 ≠ b11 := by have := au dm; omega
 replace bg := aY.af (U9.af bg)
 have amz : D2 ≠ b11 := by have := au bg; omega
 replace bz := aY.af (U9.af bz)
 have amA : l2 ≠ b11 := by have := au bz; omega
 replace bY := aY.af bY
 have amB : b5 ≠ b11 := by have := au bY; omega
 replace hF := (hF.go0 U9).go0 aY
 have Rt : w.heap.size ≤ b11 := by have := hF.size; omega
 have zz11 := bK.size
 refine ⟨bK.any, ?_⟩
 refine aI (fun w12 di => ?_)
 have zz12 := di.size
 refine jm ?_
 replace bI := (bI.ai bK).ai di
 replace hF := (hF.go0 bK).go0 di
 replace jL := di.af jL
 refine kV (e := 5) (size := 1) (bytes := 1) (by kernel_rfl) bI (Rd.nS jL) rfl (by (simp [Value.oneCell']; done)) (by simp only [vals_length, List.length_take, List.length_cons, List.length_nil, List.length_append, List.length_map, List.length_range]; omega) (by have := hF.size; omega) (fun v13 vY N13 hA13 dI => ?_)
 have fQ := bI
 replace bY := di.af (bK.af bY)
 have Xb : ∀ k, aH v13 k → k ≠ b5 := fun k hk e => Or.elim (hA13 k hk) (fun h => Bd k h e) (fun h => by have := au bY; omega)
 have Uz : ∀ k, aH v13 k → k ≠ b11 := fun k hk e => Or.elim (hA13 k hk) (fun h => JY k h e) (fun h => by have := au jL; omega)
 replace ax := di.af (bK.af ax)
 replace ax := dI.get ax (fun h => Own.aS fQ ax (by decide) _ h rfl)
 replace bI := N13
 replace ah := di.af (bK.af ah)
 replace ah := dI.get ah (fun h => Own.aS fQ ah (by decide) _ h rfl)
 replace ag := di.af (bK.af ag)
 replace ag := dI.get ag (fun h => by (have := Own.ge fQ h; omega))
 replace ae := (ae.ai bK).ai di
 replace ae := ae.dX dI (fun k hk hs => by have := l9 k hk; have := (Own.ge fQ hs).1; omega)
 replace dm := di.af (bK.af dm)
 replace dm := dI.get dm (fun h => Own.aS fQ dm (by decide) _ h rfl)
 replace bg := di.af (bK.af bg)
 replace bg := dI.get bg (fun h => Own.kT fQ bg _ h rfl)
 replace bz := di.af (bK.af bz)
 replace bz := dI.get bz (fun h => Own.iP fQ bz (by assumption) _ h rfl)
 replace bY := dI.get bY (fun h => Bd _ h rfl)
 replace jL := dI.get jL (fun h => JY _ h rfl)
 replace hF := hF.go dI (fun i h hs => by (have := (Own.ge fQ hs).1; omega))
 have zz13 := dI.size
 clear fQ
 refine ⟨dI.mono (Nat.le_refl _) (fun i _ h => .inl h), ?_⟩
 refine fO (fun w' hw' => by have ag := hw'.get ag (fun hs => Or.elim (show aH _ _ ∨ _ ≤ _ from hs) gN_h_bp (fun h => by have := gB_h_bp; omega)); have ae := ae.dX hw' (fun k hk hs => Or.elim (show aH _ _ ∨ _ ≤ _ from hs) (fun h => by have := l9 k hk; have := (Own.ge oG_own3 h).1; omega) (fun h => by have := gB_own_p k hk; omega)); exact jS ag ae rfl) ?_
 refine fO (fun w' hw' => mJ (i := (xk : Int)) (j := 1)) ?_
 rw [hN, Gs.rO (by omega)]
 refine aI (fun w16 bQ => ?_)
 have zz16 := bQ.size
 replace ae := ae.ai bQ
 replace ag := bQ.af ag
 refine aN (Nz ag ae rfl (i := ((xk : Int) + 1) % (cs.length : Int))) (fun v17 uS D17 => ?_)
 obtain ⟨A23, c23, rfl, sK, gA23, df⟩ := D17
 replace ax := bQ.af ax
 have aam := gA23.ne (au ax)
 replace bI := bI.ai bQ
 have I9 : _ ∨ ∀ k, _ → ¬ aH _ k := gA23.imp_right fun h k hk hs => by have := h k hk; have := (Own.ge bI hs).2; omega
 replace ah := bQ.af ah
 have alq := gA23.ne (au ah)
 have alr := gA23.ne (au ag)
 have ahV : _ ∨ ∀ k, _ → ¬ aH _ k := gA23.imp_right fun h k hk hs => by have := h k hk; have := (Own.ge ae hs).2; omega
 replace dm := bQ.af dm
 have ajO := gA23.ne (au dm)
 replace bg := bQ.af bg
 have als := gA23.ne (au bg)
 replace bz := bQ.af bz
 have alu := gA23.ne (au bz)
 replace bY := bQ.af bY
 have alv := gA23.ne (au bY)
 replace jL := bQ.af jL
 have akM := gA23.ne (au jL)
 have zz17 := df.size
 refine aI (fun xx dM => ?_)
 have zz18 := dM.size
 replace hF := ((hF.go0 bQ).go0 df).go0 dM
 replace bI := (bI.ai df).ai dM
 replace sK := sK.ai dM
 refine kV (e := 5) (size := 1) (bytes := 1) (by kernel_rfl) bI sK (by (simp [vals_length]; done)) uZ (by simp only [vals_length, List.length_take, List.length_cons, List.length_nil, List.length_append, List.length_map, List.length_range]; omega) (by have := hF.size; omega) (fun v19 Ar N19 hA19 fC => ?_)
 have fQ := bI
 have amC := afQ (S' := xx) I9 sK hA19
 replace bY := dM.af (df.af bY)
 have nc19_b5 : ∀ k, aH v19 k → k ≠ b5 := fun k hk e => Or.elim (hA19 k hk) (fun h => Xb k h e) (fun h => by have := au bY; omega)
 replace jL := dM.af (df.af jL)
 have anv : ∀ k, aH v19 k → k ≠ b11 := fun k hk e => Or.elim (hA19 k hk) (fun h => Uz k h e) (fun h => by have := au jL; omega)
 replace ax := dM.af (df.af ax)
 replace ax := fC.get ax (fun h => Own.aS fQ ax (by decide) _ h rfl)
 replace bI := N19
 replace ah := dM.af (df.af ah)
 replace ah := fC.get ah (fun h => Own.aS fQ ah (by decide) _ h rfl)
 replace ag := dM.af (df.af ag)
 replace ag := fC.get ag (fun h => by (have := Own.ge fQ h; omega))
 replace ae := (ae.ai df).ai dM
 replace ae := ae.dX fC (fun k hk hs => by have := l9 k hk; have := (Own.ge fQ hs).1; omega)
 replace dm := dM.af (df.af dm)
 replace dm := fC.get dm (fun h => Own.aS fQ dm (by decide) _ h rfl)
 replace bg := dM.af (df.af bg)
 replace bg := fC.get bg (fun h => Own.kT fQ bg _ h rfl)
 replace bz := dM.af (df.af bz)
 replace bz := fC.get bz (fun h => Own.iP fQ bz (by assumption) _ h rfl)
 replace bY := fC.get bY (fun h => Xb _ h rfl)
 replace jL := fC.get jL (fun h => Uz _ h rfl)
 replace sK := sK.dX fC I9
 replace hF := hF.go fC (fun i h hs => by (have := (Own.ge fQ hs).1; omega))
 have zz19 := fC.size
 clear fQ
 refine aI (fun xu dR => ?_)
 have zz20 := dR.size
 replace bI := bI.ai dR
 replace ax := dR.af ax
 refine mG (by kernel_rfl) (Own.DR bI).1 (Own.DR bI).2 ax (Nat.le_of_ble_eq_true rfl) (by (simp [tH]; rfl)) (fun Dc ax _ dV => ?_)
 replace ae := ae.ai dR
 replace sK := sK.ai dR
 replace ah := dR.af ah
 replace ag := dR.af ag
 replace dm := dR.af dm
 replace bg := dR.af bg
 replace bz := dR.af bz
 replace bY := dR.af bY
 replace jL := dR.af jL
 replace hF := hF.go0 dR
 replace bI := bI.aF dV (Own.aS bI (by assumption) (by decide))
 have zz21 := dV.size
 refine aI (fun Ht gQ => ?_)
 have zz22 := gQ.size
 replace ah := gQ.af (dV.aj ah lI)
 refine Z.l ah ?_
 replace bY := gQ.af (dV.aj bY (Ne.symm mQ))
 refine Z.b 3 ((Gs.fv (Gs.kC cs xk)).toArray) bY ?_
 replace ae := (ae.aF dV dF).ai gQ
 replace ag := gQ.af (dV.aj ag eU)
 refine aN (yS ag ae rfl (f := (Gs.kC cs xk))) (fun v23 Eu D23 => ?_)
 obtain ⟨b1_27, b2_27, rfl, g1_27, g2_27, iI, iJ, iZ⟩ := D23
 replace ax := gQ.af ax
 have VQ : b2 ≠ b1_27 := by have := au ax; omega
 replace bI := bI.ai gQ
 have ahW : ∀ k, aH _ k → k ≠ b1_27 := fun k hk => by have := (Own.ge bI hk).2; omega
 have akN : b1 ≠ b1_27 := by have := au ah; omega
 have akO : bp ≠ b1_27 := by have := au ag; omega
 have ahJ : ∀ k, aH _ k → k ≠ b1_27 := fun k hk => by have := (Own.ge ae hk).2; omega
 replace dm := gQ.af (dV.aj dm (Ne.symm NC))
 have ahX : b1_8 ≠ b1_27 := by have := au dm; omega
 replace bg := gQ.af (dV.aj bg (Ne.symm tN))
 have akP : D2 ≠ b1_27 := by have := au bg; omega
 replace bz := gQ.af (dV.aj bz (Ne.symm gq))
 have akQ : l2 ≠ b1_27 := by have := au bz; omega
 have akR : b5 ≠ b1_27 := by have := au bY; omega
 replace jL := gQ.af (dV.aj jL (Ne.symm acg))
 have ajP : b11 ≠ b1_27 := by have := au jL; omega
 replace sK := (sK.aF dV aam).ai gQ
 have ahY := (sK.lt).ne (b := b1_27) (by omega)
 replace hF := (hF.go1 dV eQ).go0 gQ
 have anw : w.heap.size ≤ b1_27 := by have := hF.size; omega
 have VR : b2 ≠ b2_27 := by have := au ax; omega
 have ahZ : ∀ k, aH _ k → k ≠ b2_27 := fun k hk => by have := (Own.ge bI hk).2; omega
 have akS : b1 ≠ b2_27 := by have := au ah; omega
 have akT : bp ≠ b2_27 := by have := au ag; omega
 have ahK : ∀ k, aH _ k → k ≠ b2_27 := fun k hk => by have := (Own.ge ae hk).2; omega
 have ah0 : b1_8 ≠ b2_27 := by have := au dm; omega
 have akU : D2 ≠ b2_27 := by have := au bg; omega
 have akV : l2 ≠ b2_27 := by have := au bz; omega
 have akW : b5 ≠ b2_27 := by have := au bY; omega
 have ajQ : b11 ≠ b2_27 := by have := au jL; omega
 have ah1 := (sK.lt).ne (b := b2_27) (by omega)
 have anx : w.heap.size ≤ b2_27 := by have := hF.size; omega
 have zz23 := iZ.size
 replace bz := iZ.af bz
 refine ad8 (by kernel_rfl) bz lp2_2 (fun Pm l3 Rdy3 Bsy3 Dn3 y3 el mr lp1_3 lp2_3 lp3_3 sz24 jA hY => ?_)
 replace ax := iZ.af ax
 have CQ : b2 ≠ l3 := by have := au ax; omega
 replace bI := bI.ai iZ
 have alx : ∀ k, aH _ k → k ≠ l3 := fun k hk => by have := (Own.ge bI hk).2; omega
 replace ah := iZ.af ah
 have Gx : b1 ≠ l3 := by have := au ah; omega
 replace ag := iZ.af ag
 have Gy : bp ≠ l3 := by have := au ag; omega
 replace ae := ae.ai iZ
 have zD : ∀ k, aH _ k → k ≠ l3 := fun k hk => by have := (Own.ge ae hk).2; omega
 replace dm := iZ.af dm
 have Be : b1_8 ≠ l3 := by have := au dm; omega
 replace bg := iZ.af bg
 have Gz : D2 ≠ l3 := by have := au bg; omega
 have GG : l2 ≠ l3 := by have := au bz; omega
 replace bY := iZ.af bY
 have anz : b5 ≠ l3 := by have := au bY; omega
 replace jL := iZ.af jL
 have amD : b11 ≠ l3 := by have := au jL; omega
 replace sK := sK.ai iZ
 have aly := (sK.lt).ne (b := l3) (by omega)
 have Eg : b1_27 ≠ l3 := by have := au iI; omega
 have Eh : b2_27 ≠ l3 := by have := au iJ; omega
 replace hF := hF.go0 iZ
 have Q4 : w.heap.size ≤ l3 := by have := hF.size; omega
 have zz24 := jA.size
 replace bI := bI.ai jA
 replace ae := ae.ai jA
 replace ax := jA.af ax
 replace ah := jA.af ah
 replace ag := jA.af ag
 replace dm := jA.af dm
 replace bg := jA.af bg
 replace bz := jA.af bz
 replace iI := jA.af iI
 replace iJ := jA.af iJ
 replace hF := hF.go0 jA
 refine Calls.mono (BI (b1 := b1_27) (b2 := b2_27) (f := (Gs.kC cs xk)) (J := (fun (m : Nat) (w' : World) => ∃ (v3 : Value), (Z.h w' b2 #[v3] 24) ∧ (Own w.heap.size w' 5 1 v3 (vals .u8 (Gs.ww cs k ++ Gs.Dy cs (Gs.kC cs xk) ++ Gs.lW cs ((Gs.iy cs.length (Gs.kC cs xk)).take m)))) ∧ (Z.h w' b1 #[Z.p bp] 33) ∧ (Z.h w' bp #[Z.i r, Z.i c, .slice A cs.length cp, Z.i cur] 91) ∧ (Own B0 w' 37 5 (.slice A cs.length cp) (rows Gs.cv cs)) ∧ (Z.h w' b1_8 #[Z.p bp] 33) ∧ (Z.h w' b1_27 #[Z.p bp] 33) ∧ (Z.h w' b2_27 ((Gs.fv (Gs.kC cs xk)).toArray) 173) ∧ (w'.heap[l3]? = some Rdy3) ∧ (w'.heap[l2]? = some Bsy2) ∧ (w'.heap[D2]? = some (.deferred (some []))) ∧ (aA no w w'))) (X := (fun _ => False)) (fun _ w' hJ => by obtain ⟨v3, ax, bI, ah, ag, ae, dm, iI, iJ, mr, bz, bg, hF⟩ := hJ; exact ⟨iI, iJ, ag, ae⟩) (fun _ w' w'' hJ U' => by obtain ⟨v3, ax, bI, ah, ag, ae, dm, iI, iJ, mr, bz, bg, hF⟩ := hJ; exact ⟨v3, U'.af ax, bI.ai U', U'.af ah, U'.af ag, ae.ai U', U'.af dm, U'.af iI, U'.af iJ, U'.af mr, U'.af bz, U'.af bg, hF.go0 U'⟩) (fun _ _ h _ => h.elim) (fun _ h => h.elim) rfl hN hb ?_ ?_) ?_
 intro m wl3 xm hxm hI
 obtain ⟨v3, ax, bI, ah, ag, ae, dm, iI, iJ, mr, bz, bg, hF⟩ := hI
 have hkm := (List.getElem?_eq_some_iff.1 hxm).1
 have hfl := Gs.FZ cs ((Gs.iy cs.length (Gs.kC cs xk)).take m)
 rw [List.length_take] at hfl
 have hhl : (Gs.Dy cs (Gs.kC cs xk)).length = 3 := by rw [Gs.WJ]; rfl
 refine hY [Z.i xm] _ _ rfl mr ?_
 simp only [List.getD_cons_zero, List.getD_cons_succ]
 refine wE mr (fun GV mr _ fZ => ?_)
 replace bI := bI.aF fZ (Own.iP bI (by assumption) (by assumption))
 have zz25 := fZ.size
 replace ah := fZ.aj ah Gx
 refine Z.l ah ?_
 replace ae := ae.aF fZ zD
 replace ag := fZ.aj ag Gy
 refine aB (iF ag ae rfl (i := xm)) (fun LH iW => ?_)
 have zz26 := iW.size
 refine Z.n ((Gs.cv Gs.zc).toArray) (fun b27 Ij e27 uO _ gm => ?_)
 replace ax := iW.af (fZ.aj ax CQ)
 have Qa : b2 ≠ b27 := by have := au ax; omega
 replace bI := bI.ai iW
 have Ei := bI.apart e27
 replace ah := iW.af ah
 have Qb : b1 ≠ b27 := by have := au ah; omega
 replace ag := iW.af ag
 have Qc : bp ≠ b27 := by have := au ag; omega
 replace ae := ae.ai iW
 have Ja := ae.apart e27
 replace dm := iW.af (fZ.aj dm Be)
 have JZ : b1_8 ≠ b27 := by have := au dm; omega
 replace iI := iW.af (fZ.aj iI Eg)
 have Jb : b1_27 ≠ b27 := by have := au iI; omega
 replace iJ := iW.af (fZ.aj iJ Eh)
 have Jc : b2_27 ≠ b27 := by have := au iJ; omega
 replace mr := iW.af mr
 have Qd : l3 ≠ b27 := by have := au mr; omega
 replace bz := iW.af (fZ.aj bz GG)
 have Qe : l2 ≠ b27 := by have := au bz; omega
 replace bg := iW.af (fZ.aj bg Gz)
 have Qg : D2 ≠ b27 := by have := au bg; omega
 replace hF := (hF.go1 fZ Q4).go0 iW
 have ach : w.heap.size ≤ b27 := by have := hF.size; omega
 have zz27 := gm.size
 refine Z.t 5 ((Gs.cv (Gs.bV cs xm)).toArray) (by (simp [Value.cells, Value.oneCell', Gs.cv, Gs.fv, Gs.ie]; done)) uO (fun V6 uO _ jG => ?_)
 have zz28 := jG.size
 refine Z.b 5 ((Gs.cv (Gs.bV cs xm)).toArray) uO ?_
 refine dQ (Nw) (fun V4 kz h29 => ?_) (fun V4 kz h29 => ?_)
 have zz29 := kz.size
 refine ak (lV) ?_
 refine aC ?_
 replace mr := kz.af (jG.aj (gm.af mr) Qd)
 refine rM mr (fun w30 mr _ rV => ?_)
 replace bI := ((bI.ai gm).aF jG Ei).ai kz
 replace ae := ((ae.ai gm).aF jG Ja).ai kz
 replace ax := kz.af (jG.aj (gm.af ax) Qa)
 replace ah := kz.af (jG.aj (gm.af ah) Qb)
 replace ag := kz.af (jG.aj (gm.af ag) Qc)
 replace dm := kz.af (jG.aj (gm.af dm) JZ)
 replace iI := kz.af (jG.aj (gm.af iI) Jb)
 replace iJ := kz.af (jG.aj (gm.af iJ) Jc)
 replace bz := kz.af (jG.aj (gm.af bz) Qe)
 replace bg := kz.af (jG.aj (gm.af bg) Qg)
 replace hF := ((hF.go0 gm).go1 jG ach).go0 kz
 replace bI := bI.aF rV (Own.iP bI (by assumption) (by assumption))
 have zz30 := rV.size
 replace ae := ae.aF rV zD
 replace ax := rV.aj ax CQ
 replace ah := rV.aj ah Gx
 replace ag := rV.aj ag Gy
 replace dm := rV.aj dm Be
 replace iI := rV.aj iI Eg
 replace iJ := rV.aj iJ Eh
 replace bz := rV.aj bz GG
 replace bg := rV.aj bg Gz
 replace hF := hF.go1 rV Q4
 exact ⟨_, ax, (by (rw [← Gs.abr hxm (by assumption)]; exact bI)), ah, ag, ae, dm, iI, iJ, mr, bz, bg, hF⟩
 have zz29 := kz.size
 refine ak (nI) ?_
 refine aJ ?_
 refine dS (S := aH (v3)) (fun w31 o9 => ?_)
 replace bI := (((bI.ai gm).aF jG Ei).ai kz).ai o9
 replace ax := o9.af (kz.af (jG.aj (gm.af ax) Qa))
 refine bJ (fun w' hw' => by have ax := hw'.get ax (fun h => Own.aS bI ax (by decide) _ h rfl); exact (kZ (by kernel_rfl) ax (by rfl))) ?_
 replace uO := o9.af (kz.af uO)
 refine bJ (fun w' hw' => by have uO := (Fr.jg hw').af uO; exact (Bv (n := 5) (cs' := (Gs.cv (Gs.bV cs xm)).toArray) (by kernel_rfl) uO (Nat.le_of_ble_eq_true rfl) (by rfl))) ?_
 refine aI (fun w32 lU => ?_)
 refine jm ?_
 refine aN (Ny) (fun v33 w33 D33 => ?_)
 obtain ⟨qi, uN⟩ := D33
 obtain ⟨A37, c37, rfl, _⟩ := qi.bH
 replace ax := lU.af ax
 have afW : ¬ aH _ b2 := fun h => by have := (Own.ge qi h).1; have := au ax; omega
 replace bI := bI.ai lU
 have ND : ∀ k, aH _ k → ¬ aH _ k := fun k hk hs => by have := (Own.ge bI hk).2; have := (Own.ge qi hs).1; omega
 replace ah := lU.af (o9.af (kz.af (jG.aj (gm.af ah) Qb)))
 have afX : ¬ aH _ b1 := fun h => by have := (Own.ge qi h).1; have := au ah; omega
 replace ag := lU.af (o9.af (kz.af (jG.aj (gm.af ag) Qc)))
 have afY : ¬ aH _ bp := fun h => by have := (Own.ge qi h).1; have := au ag; omega
 replace ae := ((((ae.ai gm).aF jG Ja).ai kz).ai o9).ai lU
 have ad9 : ∀ k, aH _ k → ¬ aH _ k := fun k hk hs => by have := (Own.ge ae hk).2; have := (Own.ge qi hs).1; omega
 replace dm := lU.af (o9.af (kz.af (jG.aj (gm.af dm) JZ)))
 have acH : ¬ aH _ b1_8 := fun h => by have := (Own.ge qi h).1; have := au dm; omega
 replace iI := lU.af (o9.af (kz.af (jG.aj (gm.af iI) Jb)))
 have aci : ¬ aH _ b1_27 := fun h => by have := (Own.ge qi h).1; have := au iI; omega
 replace iJ := lU.af (o9.af (kz.af (jG.aj (gm.af iJ) Jc)))
 have acj : ¬ aH _ b2_27 := fun h => by have := (Own.ge qi h).1; have := au iJ; omega
 replace mr := lU.af (o9.af (kz.af (jG.aj (gm.af mr) Qd)))
 have afZ : ¬ aH _ l3 := fun h => by have := (Own.ge qi h).1; have := au mr; omega
 replace bz := lU.af (o9.af (kz.af (jG.aj (gm.af bz) Qe)))
 have af0 : ¬ aH _ l2 := fun h => by have := (Own.ge qi h).1; have := au bz; omega
 replace bg := lU.af (o9.af (kz.af (jG.aj (gm.af bg) Qg)))
 have af1 : ¬ aH _ D2 := fun h => by have := (Own.ge qi h).1; have := au bg; omega
 replace uO := lU.af uO
 have aea : ¬ aH _ b27 := fun h => by have := (Own.ge qi h).1; have := au uO; omega
 replace hF := ((((hF.go0 gm).go1 jG ach).go0 kz).go0 o9).go0 lU
 replace qi := qi.mono (B' := w.heap.size) hF.size
 have hbl := Gs.IK (Gs.bV cs xm)
 refine ⟨uN.any, ?_⟩
 refine aI (fun VY og => ?_)
 replace bI := (bI.ai uN).ai og
 replace hF := (hF.go0 uN).go0 og
 replace qi := qi.ai og
 refine kV (e := 5) (size := 1) (bytes := 1) (by kernel_rfl) bI qi.Bl (by (simp [vals_length]; done)) uZ (by simp only [vals_length, List.length_take, List.length_cons, List.length_nil, List.length_append, List.length_map, List.length_range]; omega) (by have := hF.size; omega) (fun v35 w35 N35 hA35 pJ => ?_)
 have fQ := bI
 have alz := IC (S' := VY) (fun k hk hs => ND k hs hk) qi hA35
 replace uO := og.af (uN.af uO)
 have anA : ∀ k, aH v35 k → k ≠ b27 := fun k hk e => Or.elim (hA35 k hk) (fun h => Ei k h e) (fun h => by have := au uO; omega)
 replace ax := og.af (uN.af ax)
 replace ax := pJ.get ax (fun h => Own.aS fQ ax (by decide) _ h rfl)
 replace bI := N35
 replace ah := og.af (uN.af ah)
 replace ah := pJ.get ah (fun h => Own.aS fQ ah (by decide) _ h rfl)
 replace ag := og.af (uN.af ag)
 replace ag := pJ.get ag (fun h => by (have := Own.ge fQ h; omega))
 replace ae := (ae.ai uN).ai og
 replace ae := ae.dX pJ (fun k hk hs => by have := l9 k hk; have := (Own.ge fQ hs).1; omega)
 replace dm := og.af (uN.af dm)
 replace dm := pJ.get dm (fun h => Own.aS fQ dm (by decide) _ h rfl)
 replace iI := og.af (uN.af iI)
 replace iI := pJ.get iI (fun h => Own.aS fQ iI (by decide) _ h rfl)
 replace iJ := og.af (uN.af iJ)
 replace iJ := pJ.get iJ (fun h => Own.aS fQ iJ (by decide) _ h rfl)
 replace mr := og.af (uN.af mr)
 replace bz := og.af (uN.af bz)
 replace bg := og.af (uN.af bg)
 replace mr := pJ.get mr (fun h => Own.iP fQ mr (by assumption) _ h rfl)
 replace bz := pJ.get bz (fun h => Own.iP fQ bz (by assumption) _ h rfl)
 replace bg := pJ.get bg (fun h => Own.kT fQ bg _ h rfl)
 replace hF := hF.go pJ (fun i h hs => by (have := (Own.ge fQ hs).1; omega))
 clear fQ
 refine aI (fun w36 oh => ?_)
 replace bI := bI.ai oh
 replace ax := oh.af ax
 refine mG (by kernel_rfl) (Own.DR bI).1 (Own.DR bI).2 ax (Nat.le_of_ble_eq_true rfl) (by (simp [tH]; rfl)) (fun w37 ax _ pz => ?_)
 replace ae := ae.ai oh
 replace ah := oh.af ah
 replace ag := oh.af ag
 replace dm := oh.af dm
 replace iI := oh.af iI
 replace iJ := oh.af iJ
 replace mr := oh.af mr
 replace bz := oh.af bz
 replace bg := oh.af bg
 replace hF := hF.go0 oh
 replace bI := bI.aF pz (Own.aS bI (by assumption) (by decide))
 refine aI (fun w38 wo => ?_)
 replace mr := wo.af (pz.aj mr (Ne.symm CQ))
 refine rM mr (fun w39 mr _ uI => ?_)
 replace ae := (ae.aF pz dF).ai wo
 replace ah := wo.af (pz.aj ah lI)
 replace ag := wo.af (pz.aj ag eU)
 replace dm := wo.af (pz.aj dm (Ne.symm NC))
 replace iI := wo.af (pz.aj iI (Ne.symm VQ))
 replace iJ := wo.af (pz.aj iJ (Ne.symm VR))
 replace bz := wo.af (pz.aj bz (Ne.symm gq))
 replace bg := wo.af (pz.aj bg (Ne.symm tN))
 replace hF := (hF.go1 pz eQ).go0 wo
 replace bI := bI.ai wo
 replace ax := wo.af ax
 replace bI := bI.aF uI (Own.iP bI (by assumption) (by assumption))
 replace ae := ae.aF uI zD
 replace ax := uI.aj ax CQ
 replace ah := uI.aj ah Gx
 replace ag := uI.aj ag Gy
 replace dm := uI.aj dm Be
 replace iI := uI.aj iI Eg
 replace iJ := uI.aj iJ Eh
 replace bz := uI.aj bz GG
 replace bg := uI.aj bg Gz
 replace hF := hF.go1 uI Q4
 exact ⟨_, ax, (by (rw [← Gs.abt hxm (by assumption), ← List.append_assoc, ← zB]; exact bI)), ah, ag, ae, dm, iI, iJ, mr, bz, bg, hF⟩
 exact ⟨_, ax, (by rw [Gs.WJ, List.take_zero, show Gs.lW cs [] = [] from rfl, List.append_nil, ← List.append_assoc, ← zB, ← zB]; exact bI), ah, ag, ae, dm, iI, iJ, mr, bz, bg, hF⟩
 rintro e wE3 ⟨hv, hI | hI⟩
 obtain ⟨v3, ax, bI, ah, ag, ae, dm, iI, iJ, mr, bz, bg, hF⟩ := hI
 refine ⟨hv, .inl ⟨mr, fun w40 _ mW => ?_⟩⟩
 replace bI := bI.aF mW (Own.iP bI (by assumption) (by assumption))
 replace bz := mW.aj bz GG
 refine rM bz (fun w41 bz _ GZ => ?_)
 replace ae := ae.aF mW zD
 replace ax := mW.aj ax CQ
 replace ah := mW.aj ah Gx
 replace ag := mW.aj ag Gy
 replace dm := mW.aj dm Be
 replace bg := mW.aj bg Gz
 replace hF := hF.go1 mW Q4
 replace bI := bI.aF GZ (Own.iP bI (by assumption) (by assumption))
 replace ae := ae.aF GZ eH
 replace ax := GZ.aj ax gq
 replace ah := GZ.aj ah iD
 replace ag := GZ.aj ag ig
 replace dm := GZ.aj dm Bc
 replace bg := GZ.aj bg fB
 replace hF := hF.go1 GZ jC
 exact ⟨_, ax, (by (rw [← Gs.ai2 hx (by assumption), ← List.append_assoc]; rw [List.take_of_length_le (Nat.le_refl _)] at bI; exact bI)), ah, ag, ae, dm, bg, bz, hF⟩
 exact hI.elim
 simp only [Z.d, Z.c] at h8
 refine ak (nI) ?_
 refine aJ ?_
 replace bz := U8.af bz
 refine rM bz (fun w42 bz _ qM => ?_)
 replace ae := (ae.aF U7 eH).ai U8
 replace ax := U8.af (U7.aj ax gq)
 replace ah := U8.af (U7.aj ah iD)
 replace ag := U8.af (U7.aj ag ig)
 replace dm := U8.af (U7.aj dm Bc)
 replace bg := U8.af (U7.aj bg fB)
 replace hF := (hF.go1 U7 jC).go0 U8
 replace bI := bI.ai U8
 replace bI := bI.aF qM (Own.iP bI (by assumption) (by assumption))
 have zz42 := qM.size
 replace ae := ae.aF qM eH
 replace ax := qM.aj ax gq
 replace ah := qM.aj ah iD
 replace ag := qM.aj ag ig
 replace dm := qM.aj dm Bc
 replace bg := qM.aj bg fB
 replace hF := hF.go1 qM jC
 exact ⟨_, ax, (by (rw [← Gs.ai3 hx (by assumption)]; exact bI)), ah, ag, ae, dm, bg, bz, hF⟩
 exact ⟨_, ax, (Own.nil _ _ _ _), ah, ag, ae, dm, bg, bz, hF⟩
 rintro e wE2 ⟨hv, hI | hI⟩
 obtain ⟨v3, ax, bI, ah, ag, ae, dm, bg, bz, hF⟩ := hI
 refine ⟨hv, .inl ⟨bz, fun w43 _ oz => ?_⟩⟩
 replace bI := bI.aF oz (Own.iP bI (by assumption) (by assumption))
 have zz43 := oz.size
 refine hJ1 _ _ ?_
 replace ax := oz.aj ax gq
 replace bg := oz.aj bg fB
 replace hF := hF.go1 oz jC
 exact ⟨_, _, (by rfl), nz, bg, ax, bI, hF⟩
 exact hI.elim
 replace hF := hF.go0 U2
 obtain ⟨D2, v3, g1000000, nz, bg, ax, bI, hF⟩ := hI
 rw [g1000000]
 refine Z.l ax ?_
 refine leave1 bg (fun w45 _ zV => ?_)
 replace ae := ae.ai U2
 replace ag := U2.af ag
 replace ah := U2.af ah
 replace bI := bI.aF zV (Own.kT bI (by assumption))
 have zz45 := zV.size
 replace hF := hF.go1 zV nz
 exact ⟨_, rfl, bI, hF⟩
theorem aeb {r c cur : Int} {A : Option Addr} {n cp bp B0 : Nat} {cs : List Gs.Cell} {w : World} (ag : Z.h w bp #[Z.i r, Z.i c, .slice A n cp, Z.i cur] 91) (ae : Own B0 w 37 5 (.slice A n cp) (rows Gs.cv cs)) (hn : n = cs.length) {x : Int} (hp : 0 < n) (hN : Gs.aZ r c = n) (hb : n ≤ 4096) (hcw : Gs.jh cs)  :
    oX 55 #[Z.p bp, Z.u x] w fun e w' => ∃ v, e = .returned v ∧ Own w.heap.size w' 5 1 v (vals .u8 (Gs.allB cs cur x)) ∧ aA no w w' := by
 refine F55.calls ?_
 unfold F55
 subst hn
 have hwl := Gs.FZ cs (Gs.ja cs)
 rw [Gs.zu] at hwl
 have hoe := Gs.abu hb
 have hF : aA no w w := Fr.refl _ _ _
 refine dN (e := 5) (m := 1) (z := #[Z.u 0]) (by kernel_rfl) (by kernel_rfl) (by rfl) (by decide) (by (simp [eP, splice, gu, Value.cells, Gs.cv, Gs.fv, Gs.ie]; rfl)) (fun b1 w1 e1 ah _ U1 => ?_)
 have kX : bp ≠ b1 := by have := au ag; omega
 have iq := ae.apart e1
 have bZ : w.heap.size ≤ b1 := by have := hF.size; omega
 have zz1 := U1.size
 have oJ := Own.of_block (B := w.heap.size) (n := 1) (xs := vals .u8 [x]) (size := 1) ah bZ rfl (by decide)
 replace ae := ae.ai U1
 replace ag := U1.af ag
 refine aB (eF ag ae rfl) (fun w2 U2 => ?_)
 have zz2 := U2.size
 replace ae := ae.ai U2
 replace ag := U2.af ag
 refine aN (Nz ag ae rfl (i := cur)) (fun v3 w3 D3 => ?_)
 obtain ⟨A11, c11, rfl, Un, gA11, U3⟩ := D3
 have zz3 := U3.size
 replace hF := ((hF.go0 U1).go0 U2).go0 U3
 replace oJ := (oJ.ai U2).ai U3
 refine kV (e := 5) (size := 1) (bytes := 1) (by kernel_rfl) oJ Un (by (simp [vals_length]; done)) uZ (by simp only [vals_length, List.length_take, List.length_cons, List.length_nil, List.length_append, List.length_map, List.length_range]; omega) (by have := hF.size; omega) (fun v4 w4 N4 hA4 U4 => ?_)
 have qH := oJ
 replace ag := U3.af ag
 replace ag := U4.get ag (fun hs => by cases hs; exact kX rfl)
 replace ae := ae.ai U3
 replace ae := ae.dX U4 (fun k hk hs => by cases hs; exact iq _ hk rfl)
 replace oJ := N4
 replace hF := hF.go U4 (fun i h hs => by (have := (Own.ge qH hs).1; omega))
 have zz4 := U4.size
 clear qH
 refine dQ (Au ag ae rfl hN hb) (fun w5 U5 h5 => ?_) (fun w5 U5 h5 => ?_)
 have zz5 := U5.size
 simp only [Z.d, Z.c] at h5
 refine aJ ?_
 replace ae := ae.ai U5
 replace ag := U5.af ag
 refine aN (VP ag ae rfl hN hb hcw) (fun v6 w6 D6 => ?_)
 obtain ⟨wS, U6⟩ := D6
 obtain ⟨A17, c17, rfl, _⟩ := wS.bH
 replace hF := hF.go0 U5
 replace wS := wS.mono (B' := w.heap.size) hF.size
 have zz6 := U6.size
 replace oJ := (oJ.ai U5).ai U6
 replace hF := hF.go0 U6
 refine kV (e := 5) (size := 1) (bytes := 1) (by kernel_rfl) oJ wS.Bl (by (simp [vals_length]; done)) uZ (by simp only [vals_length, List.length_take, List.length_cons, List.length_nil, List.length_append, List.length_map, List.length_range]; omega) (by have := hF.size; omega) (fun v7 w7 N7 hA7 U7 => ?_)
 have qH := oJ
 replace hF := hF.go U7 (fun i h hs => by (have := (Own.ge qH hs).1; omega))
 have zz7 := U7.size
 clear qH
 exact ⟨_, rfl, by rw [← Gs.ai4 (Gs.ala hp (by assumption))]; assumption, hF⟩
 have zz5 := U5.size
 simp only [Z.d, Z.c] at h5
 refine aC ?_
 replace ae := ae.ai U5
 replace ag := U5.af ag
 refine aN (aak ag ae rfl hb) (fun v9 w9 D9 => ?_)
 obtain ⟨Q5, U9⟩ := D9
 obtain ⟨A21, c21, rfl, _⟩ := Q5.bH
 replace hF := hF.go0 U5
 replace Q5 := Q5.mono (B' := w.heap.size) hF.size
 have zz9 := U9.size
 replace oJ := (oJ.ai U5).ai U9
 replace hF := hF.go0 U9
 refine kV (e := 5) (size := 1) (bytes := 1) (by kernel_rfl) oJ Q5.Bl (by (simp [vals_length]; done)) uZ (by simp only [vals_length, List.length_take, List.length_cons, List.length_nil, List.length_append, List.length_map, List.length_range]; omega) (by have := hF.size; omega) (fun v10 w10 N10 hA10 aY => ?_)
 have qH := oJ
 replace hF := hF.go aY (fun i h hs => by (have := (Own.ge qH hs).1; omega))
 have zz10 := aY.size
 clear qH
 exact ⟨_, rfl, by rw [← Gs.ai5 (Gs.alb hp (by assumption))]; assumption, hF⟩
theorem ack {r c cur : Int} {A : Option Addr} {n cp bp B0 : Nat} {cs : List Gs.Cell} {w : World} (ag : Z.h w bp #[Z.i r, Z.i c, .slice A n cp, Z.i cur] 91) (ae : Own B0 w 37 5 (.slice A n cp) (rows Gs.cv cs)) (hn : n = cs.length) {x : Int} (hp : 0 < n) (hN : Gs.aZ r c = n) (hb : n ≤ 4096) (hcw : Gs.jh cs)  :
    oX 20 #[Z.p bp, Z.u x] w fun e w' => ∃ v, e = .returned v ∧ Own w.heap.size w' 5 1 v (vals .u8 (Gs.readB cs cur x)) ∧ aA no w w' := by
 refine F20.calls ?_
 unfold F20
 have xy := au ag
 have l9 := Own.lt ae
 have hF : aA no w w := Fr.refl _ _ _
 refine dQ (aaj) (fun w1 U1 h1 => ?_) (fun w1 U1 h1 => ?_)
 have zz1 := U1.size
 simp only [Z.d, Z.c] at h1
 refine aJ ?_
 refine dN (e := 5) (m := 1) (z := #[Z.u 0]) (by kernel_rfl) (by kernel_rfl) (by rfl) (by decide) (by (simp [eP, splice, gu, Value.cells, Gs.cv, Gs.fv, Gs.ie]; rfl)) (fun b2 w2 e2 ax _ U2 => ?_)
 replace ag := U1.af ag
 have eU : bp ≠ b2 := by have := au ag; omega
 replace ae := ae.ai U1
 have dF := ae.apart e2
 replace hF := hF.go0 U1
 have eQ : w.heap.size ≤ b2 := by have := hF.size; omega
 have zz2 := U2.size
 replace hF := hF.go0 U2
 exact ⟨_, rfl, by rw [Gs.agY (by assumption)]; exact Own.of_block (n := 1) (xs := [_]) (by assumption) (by omega) rfl (by decide), hF⟩
 have zz1 := U1.size
 simp only [Z.d, Z.c] at h1
 refine aC ?_
 replace ae := ae.ai U1
 replace ag := U1.af ag
 refine aN (aeb ag ae hn hp hN hb hcw) (fun v4 w4 D4 => ?_)
 obtain ⟨Jy, U4⟩ := D4
 obtain ⟨A11, c11, rfl, _⟩ := Jy.bH
 have ahL : ¬ aH _ bp := fun h => by have := (Own.ge Jy h).1; have := au ag; omega
 have af2 : ∀ k, aH _ k → ¬ aH _ k := fun k hk hs => by have := (Own.ge ae hk).2; have := (Own.ge Jy hs).1; omega
 replace hF := hF.go0 U1
 replace Jy := Jy.mono (B' := w.heap.size) hF.size
 have zz4 := U4.size
 replace hF := hF.go0 U4
 exact ⟨_, rfl, by rw [Gs.agZ (by assumption)]; exact Jy, hF⟩
section
variable (R : Ending → World → Prop) (w : World)
set_option maxRecDepth 100000
def F8 : Prop :=
 oD 32 #[(0, (Z.i 1)), (1, (Z.i 6))] w R fun t7 w =>
 oC 33 #[t7] w R fun t8 w =>
 oE t8 0 w R fun t9 w =>
 oE t8 1 w R fun t10 w =>
 oQ true .eql 33 t9 (.pointer none) w R fun t12 w =>
 cond t12 (R (.returned (.bool false)) w)
 (oD 37 #[(2, (.bool true))] w R fun t14 w =>
 oC 14 #[t9, (Z.i 0), t14] w R fun t15 w =>
 oC 36 #[t9, (Z.i 1)] w R fun t17 w =>
 oC 37 #[t9, (Z.u 193), (.bool false)] w R fun t19 w =>
 oC 20 #[t9, (Z.u 125)] w R fun t22 w =>
 oC 19 #[t22] w R fun t23 w =>
 oE t23 0 w R fun t24 w =>
 oE t23 1 w R fun t25 w =>
 oA 48 w R fun t4 w =>
 oS 48 t4 t24 w R fun _ w =>
 oQ true .eql 25 t19 (Z.i 0) w R fun t27 w =>
 gd t27 true (fun K => K t25 w) w fun t29 w =>
 gd t27 true (fun K => oQ true .eql 25 t29 (Z.i 0) w R K) w fun t30 w =>
 pick t27 t30 (.bool false) w fun t31 w =>
 gd t31 true (fun K => oL 48 t4 w R K) w fun t33 w =>
 gd t31 true (fun K => oC 38 #[(Z.i 37), t33] w R K) w fun t34 w =>
 gd t31 true (fun K => oQ true .eql 9 t34 (.string ⟨#[69, 78, 84, 69, 82, 32, 64, 50, 32, 49, 61, 65]⟩) w R K) w fun t35 w =>
 pick t31 t35 (.bool false) w fun t36 w =>
 gd t36 true (fun K => oC 39 #[(Z.i 37), (Z.u 193)] w R K) w fun t38 w =>
 gd t36 true (fun K => oQ true .eql 21 t38 (.int .i32 65) w R K) w fun t39 w =>
 pick t36 t39 (.bool false) w fun t40 w =>
 R (.returned t40) w)
theorem F8.calls {R w} : F8 R w → oX 8 #[] w R := Z.k (args := []) [0,1,3,4,5,12]
end
theorem Zx {A : Option Addr} {n cp : Nat} {bs : List Int} {w : World} (bH : Rd w A (vals .u8 bs)) (hn : n = bs.length) (hc : n ≤ cp) (hbs : Bs bs) (hbd : n ≤ 100000) :
    oX 19 #[.slice A n cp] w fun e w' => ∃ v, e = .returned v ∧ ∃ (q : Gs.Inb) (l : List Gs.It) (A' : Option Addr) (c' : Nat), q = Gs.Oc bs ∧ q.items = Gs.its l ∧ v = .tuple #[.agg #[Z.u q.jO, .bool q.alone, Z.i q.cur, .slice A' l.length c'], Z.i (Gs.acQ (Gs.wu bs))] ∧ Rd w' A' (rows Gs.ie l) ∧ Gs.Cl w' l ∧ Gs.Iw l ∧ uQ A' (rows Gs.ie l) w.heap.size ∧ Gs.TF l w.heap.size ∧ (0 ≤ q.jO ∧ q.jO ≤ 255) ∧ aA no w w' := by
 refine F19.calls ?_
 unfold F19
 have hF : aA no w w := Fr.refl _ _ _
 refine Z.n (#[Z.u 0, .bool false, Z.i 0, .slice none 0 0]) (fun b1 w1 e1 ah _ U1 => ?_)
 have bZ : w.heap.size ≤ b1 := by have := hF.size; omega
 replace bH := bH.ai U1
 refine aN (Rl bH hn hc hbs hbd) (fun v2 w2 D2 => ?_)
 obtain ⟨q5, l5, A5, c5, hq5, hi5, rfl, Sv, ads, hw5, gA5, gC05, ha5, U2⟩ := D2
 have gC5 : Gs.TF l5 _ := .inr gC05
 replace hF := hF.go0 U1
 have qF5 := hF.size
 have abe := gA5.ne (au ah)
 have Zy := gC5.ne (au ah)
 refine Z.e ?_
 refine Z.e ?_
 replace ah := U2.af ah
 refine Z.t 4 (#[Z.u q5.jO, .bool q5.alone, Z.i q5.cur, .slice A5 l5.length c5]) (by (simp [Value.cells, Value.oneCell', Gs.cv, Gs.ie]; done)) ah (fun w3 ah _ U3 => ?_)
 refine Z.a 4 ah ?_
 replace hF := (hF.go0 U2).go1 U3 bZ
 replace Sv := Sv.aF U3 abe
 replace ads := ads.aF U3 Zy
 exact ⟨_, rfl, q5, l5, A5, c5, hq5, hi5, rfl, Sv, ads, hw5, gA5.mono qF5, gC5.mono qF5, ha5, hF⟩
open Go Go.Sh Go.RowKit
theorem Oa (b : Nat) (w : World) (h0 : w.cell? ⟨b, 0, none⟩ = some (.pointer (some ⟨b, 0, none⟩))) :
    Calls Tryz.prog 100 #[.pointer (some ⟨b, 0, none⟩)] w fun e w' => e = .returned (.tuple #[]) ∧ w' = w := by
 obtain ⟨j, hj, hjs⟩ : ∃ j, Tryz.prog.info? 108 = some j ∧ j.size = 2 := by
   have h : (Tryz.prog.info? 108).map (·.size) = some 2 := by kernel_rfl
   obtain ⟨j, hj, hjs⟩ := Option.map_eq_some_iff.1 h
   exact ⟨j, hj, hjs⟩
 go_enter Tryz.func100, Tryz.ntmps100
 go_wp2
 rw [Lib.run_neq_ptr_same w _ Tryz.underlying106 hj]
 go_wp2
 go_end0
 exact ⟨rfl, rfl⟩
theorem LD (b : Nat) (w : World) (h0 : w.cell? ⟨b, 0, none⟩ = some (.pointer none)) (hsh : w.shape? b = some (108, 2)) (hfz : w.frozen? ⟨b, 0, none⟩ = false) :
    Calls Tryz.prog 100 #[.pointer (some ⟨b, 0, none⟩)] w fun e w' => e = .returned (.tuple #[]) ∧ w' = w.setCell ⟨b, 0, none⟩ (.pointer (some ⟨b, 0, none⟩)) := by
 obtain ⟨j, hj, hjs⟩ : ∃ j, Tryz.prog.info? 108 = some j ∧ j.size = 2 := by
   have h : (Tryz.prog.info? 108).map (·.size) = some 2 := by kernel_rfl
   obtain ⟨j, hj, hjs⟩ := Option.map_eq_some_iff.1 h
   exact ⟨j, hj, hjs⟩
 go_enter Tryz.func100, Tryz.ntmps100
 go_wp2
 rw [Lib.run_to_unsafe w ⟨b, 0, none⟩ Tryz.underlying106 Tryz.underlying197 hj (by rw [hjs]; decide) hsh (Nat.zero_lt_succ 1)]
 simp only [Result.andThen]
 rw [Oper.upon_value]
 go_wp2
 rw [run_callFunc_extern Tryz.func143 (by kernel_rfl) (by kernel_rfl) (by kernel_rfl) (e := Extern.AbiNoEscape.same) (by kernel_rfl)]
 rw [Lib.run_noEscape]
 simp only [Result.andThen]
 rw [Oper.upon_value]
 go_wp2
 rw [Lib.run_from_unsafe w ⟨b, 0, none⟩ Tryz.underlying197 Tryz.underlying106 hj hsh (by kernel_rfl)]
 simp only [Result.andThen]
 rw [Oper.upon_value]
 go_wp2
 go_end0
 exact ⟨rfl, rfl⟩
def lY (B : Nat) (w : World) (b : Nat) (v : Value) (l : List Value) : Prop :=
  (∃ p, (p = .pointer none ∨ p = .pointer (some ⟨b, 0, none⟩)) ∧ w.heap[b]? = some (.cells #[p, v] 108 (0, 0))) ∧ Own B w 5 1 v l ∧ ∀ k, aH v k → k ≠ b
def Kt (b : Nat) (v : Value) : Nat → Prop := fun k => k = b ∨ aH v k
theorem lY.lt {B b : Nat} {w : World} {v : Value} {l : List Value} (h : lY B w b v l) : b < w.heap.size := by obtain ⟨⟨p, _, hb⟩, _⟩ := h; exact au hb
theorem lY.ge {B b : Nat} {w : World} {v : Value} {l : List Value} (h : lY B w b v l) {k : Nat} (hk : aH v k) : B ≤ k := (h.2.1.ge hk).1
theorem lY.dX {S : Nat → Prop} {B b : Nat} {w w' : World} {v : Value} {l : List Value} (h : lY B w b v l) (u : aA S w w') (hs : ∀ k, Kt b v k → ¬ S k) : lY B w' b v l := by
  obtain ⟨⟨p, hp, hb⟩, ho, hn⟩ := h
  exact ⟨⟨p, hp, u.get hb (hs b (.inl rfl))⟩, ho.dX u (fun k hk => hs k (.inr hk)), hn⟩
theorem lY.ai {B b : Nat} {w w' : World} {v : Value} {l : List Value} (h : lY B w b v l) (u : aA no w w') : lY B w' b v l := h.dX u (fun _ _ => id)
theorem lY.aF {B b g : Nat} {w w' : World} {v : Value} {l : List Value} (h : lY B w b v l) (u : aA (· = g) w w') (hs : ∀ k, Kt b v k → k ≠ g) : lY B w' b v l := h.dX u hs
theorem lY.new {w : World} {b : Nat} (hb : w.heap[b]? = some (.cells #[.pointer none, .slice none 0 0] 108 (0, 0))) (B : Nat) : lY B w b (.slice none 0 0) [] :=
  ⟨⟨_, .inl rfl, hb⟩, Own.nil _ _ _ _, fun k hk => by cases hk⟩
theorem UW {w : World} {b o : Nat} {v : Value} : aA (· = b) w (w.setCell ⟨b, o, none⟩ v) :=
  ⟨rfl, rfl, rfl, by simp [World.setCell], fun k _ hs => by simp only [World.setCell, Array.getElem?_modify]; rw [if_neg (fun e => hs e.symm)]⟩
theorem UX {B b : Nat} {w : World} {v : Value} {l : List Value} (h : lY B w b v l) :
    Calls Tryz.prog 100 #[.pointer (some ⟨b, 0, none⟩)] w fun e w' => e = .returned (.tuple #[]) ∧ w'.heap[b]? = some (.cells #[.pointer (some ⟨b, 0, none⟩), v] 108 (0, 0)) ∧ w'.heap.size = w.heap.size ∧ aA (· = b) w w' := by
 obtain ⟨⟨p, rfl | rfl, hb⟩, _⟩ := h
 refine (LD b w (by simp [World.cell?, hb]) (by simp [World.shape?, hb]) (by simp [World.frozen?, hb])).mono ?_
 rintro e w' ⟨rfl, rfl⟩
 exact ⟨rfl, by simp [World.setCell, Array.getElem?_modify, hb], by simp [World.setCell], UW⟩
 refine (Oa b w (by simp [World.cell?, hb])).mono ?_
 rintro e w' ⟨rfl, rfl⟩
 exact ⟨rfl, hb, rfl, Fr.refl _ _ _⟩
theorem strCells_eq (s : ByteArray) : Lib.strCells s = Lib.byteCells s.data.toList := by
  simp [Lib.strCells, Lib.byteCells]
theorem zZ {B b : Nat} {s : ByteArray} {w : World} {v : Value} {l : List UInt8} (h : lY B w b v (Lib.byteCells l)) (hl : l.length ≤ 17592186044416) (hs : s.size ≤ 17592186044416) (hB : B ≤ w.heap.size) :
    Calls Tryz.prog 76 #[.pointer (some ⟨b, 0, none⟩), .string s] w fun e w' => ∃ x, e = .returned x ∧ ∃ v', lY B w' b v' (Lib.byteCells (l ++ s.data.toList)) ∧ aA (Kt b v) w w' := by
 refine F76.calls ?_
 unfold F76
 obtain ⟨_, ho, hn⟩ := id h
 refine aB (UX h) fun w1 ⟨h1, s1, u1⟩ => ?_
 refine dw ?_
 refine ak (oV (off := 1) (by kernel_rfl)) ?_
 refine ak (kZ (by kernel_rfl) h1 (by rfl)) ?_
 have ho1 := ho.aF u1 hn
 obtain ⟨n, hr⟩ := id ho1
 have hn1 : n = l.length := by have := hr.1; simp [Lib.byteCells] at this; omega
 subst hn1
 obtain ⟨i, hi, hi1, hi2, hi3⟩ : ∃ i, (Tryz.prog).info? 5 = some i ∧ i.zero = some (.int .u8 0) ∧ i.size = 1 ∧ i.bytes = 1 := by
   have h : (match (Tryz.prog).info? 5 with | some i => (match i.zero with | some (.int .u8 0) => true | _ => false) && i.size == 1 && i.bytes == 1 | none => false) = true := by kernel_rfl
   split at h
   · rename_i i hi
     simp only [Bool.and_eq_true, beq_iff_eq] at h
     refine ⟨i, hi, ?_, h.1.2, h.2⟩
     have h2 := h.1.1
     split at h2
     · assumption
     · cases h2
   · cases h
 obtain ⟨v3, w3, r1, r2, r3, _⟩ := Lib.run_append_own_string (P := Tryz.prog) w1 B 24 9 24 5 i Tryz.underlying24 Tryz.underlying9 hi hi1 hi2 hi3 v l.length _ hr s (by simp only [maxLen]; omega) (by omega) (by omega)
 refine ak r1 ?_
 have u3 : aA (aH v) w1 w3 := ⟨r3.os, r3.tape, r3.output, r3.size, fun k hk hs => r3.block k hk (fun e => hs e)⟩
 have N3 : Own B w3 5 1 v3 (Lib.byteCells (l ++ s.data.toList)) := ⟨_, by rw [strCells_eq] at r2; simpa [Lib.byteCells] using r2⟩
 have h13 := u3.get h1 (fun hk => hn b hk rfl)
 refine dw ?_
 refine ak (oV (off := 1) (by kernel_rfl)) ?_
 have hlt := h.lt
 have hn3 : ∀ k, aH v3 k → k ≠ b := by
   intro k hk e
   subst e
   rcases h13' : N3 with ⟨n, _, h' | ⟨g, cap, cur, hv, _, hg, _⟩⟩
   · rw [h'.1] at hk; cases hk
   · rw [hv] at hk
     cases hk
     rw [h13] at hg
     have := (Option.some.inj hg)
     cases this
 have hsz : (Value.cells v3) = #[v3] ∧ v3.oneCell' = true := by
   rcases N3 with ⟨n, _, h' | ⟨g, cap, cur, hv, _⟩⟩
   · rw [h'.1]; exact ⟨rfl, rfl⟩
   · rw [hv]; exact ⟨rfl, rfl⟩
 refine mG (by kernel_rfl) hsz.1 hsz.2 h13 (by simp) rfl (fun w4 h4 s4 u4 => ?_)
 refine ak (age (by kernel_rfl) _) ?_
 refine ⟨_, rfl, v3, ⟨⟨_, .inr rfl, h4⟩, N3.aF u4 hn3, hn3⟩, ?_⟩
 have a := (Fr.refl (Kt b v) _ w).go u1 (fun i _ h => .inl h)
 have a := a.go u3 (fun i _ h => .inr h)
 exact a.go u4 (fun i _ h => .inl h)
theorem lY.apart {B b g : Nat} {w : World} {v : Value} {l : List Value} (h : lY B w b v l) (e : g = w.heap.size) : ∀ k, Kt b v k → k ≠ g := fun k hk he => by
  rcases hk with hk | hk
  · have := h.lt; omega
  · have := (h.2.1.ge hk).2; omega
theorem lY.iP {B b g : Nat} {w : World} {v : Value} {l : List Value} {o : Obj} (h : lY B w b v l) (hl : w.heap[g]? = some o) (lp : Aj o = true) : ∀ k, Kt b v k → k ≠ g := fun k hk he => by
  rcases hk with hk | hk
  · obtain ⟨⟨p, _, hb⟩, _⟩ := h
    exact Rf hb hl lp (by omega)
  · exact Own.iP h.2.1 hl lp k hk he
theorem lY.kT {B b g : Nat} {w : World} {v : Value} {l : List Value} {d : Option (List Deferred)} (h : lY B w b v l) (hl : w.heap[g]? = some (.deferred d)) : ∀ k, Kt b v k → k ≠ g := fun k hk he => by
  rcases hk with hk | hk
  · obtain ⟨⟨p, _, hb⟩, _⟩ := h
    exact JG hb hl (by omega)
  · exact Own.kT h.2.1 hl k hk he
theorem Pj (w : World) (o : Obj) : aA no w (w.alloc o) := ⟨rfl, rfl, rfl, by simp, fun k hk _ => heap_alloc_old w o hk⟩
theorem Xy (w : World) (g n : Nat) : aA (fun k => some k = some g) w (w.freeze ⟨g, 0, none⟩ n) := by
  unfold World.freeze
  split
  · exact Fr.refl _ _ _
  · exact ⟨rfl, rfl, rfl, by simp, fun k hk hs => by
      simp only [Array.getElem?_modify]
      rw [if_neg (fun e => hs (by rw [← e]))]⟩
theorem aaE {B b : Nat} {w : World} {v : Value} {l : List UInt8} (h : lY B w b v (Lib.byteCells l)) (hl : l.length ≤ 17592186044416) :
    Calls Tryz.prog 60 #[.pointer (some ⟨b, 0, none⟩)] w fun e w' => e = .returned (.string ⟨l.toArray⟩) ∧ aA (aH v) w w' := by
 refine F60.calls ?_
 unfold F60
 obtain ⟨⟨p, hp, hb⟩, ho, hn⟩ := h
 have hF : aA (aH v) w w := Fr.refl _ _ _
 refine dS (S := aH v) (fun w1 U1 => ?_)
 have hb1 := U1.af hb
 have ho1 := ho.ai U1
 refine fV ?_
 refine bJ (fun w' hw' => oV (off := 1) (by kernel_rfl)) ?_
 refine bJ (fun w' hw' => kZ (by kernel_rfl) (by exact (Fr.jg hw').af hb1) (by rfl)) ?_
 refine fV ?_
 refine bJ (fun w' hw' => oV (off := 1) (by kernel_rfl)) ?_
 refine bJ (fun w' hw' => kZ (by kernel_rfl) (by exact hw'.get hb1 (fun hk => hn b hk rfl)) (by rfl)) ?_
 obtain ⟨n, hln, hor⟩ := id ho1
 rw [Lib.byteCells_length, Nat.mul_one] at hln
 subst hln
 rcases hor with ⟨rfl, h0⟩ | ⟨g, cap, cur, rfl, hbg, hg, hnc, hcm, hcs, htk⟩
 have hl0 : l = [] := List.length_eq_zero_iff.1 h0
 subst hl0
 refine bJ (fun w' hw' => gZ (by kernel_rfl) _ _ _) ?_
 refine aI (fun w2 U2 => ?_)
 refine jm (ak (Lib.run_unsafeSliceData_nil _ _ _ _ _) ⟨Fr.refl _ _ _, ?_⟩)
 refine aI (fun w3 U3 => ?_)
 refine ak (Lib.run_unsafeString_none _ _ _ _ _) ?_
 refine aI (fun w4 U4 => ?_)
 replace hF := hF.go0 U1
 exact ⟨rfl, ((hF.go0 U2).go0 U3).go0 U4⟩
 by_cases hl0 : l = []
 subst hl0
 refine bJ (fun w' hw' => gZ (by kernel_rfl) _ _ _) ?_
 refine aI (fun w2 U2 => ?_)
 by_cases hc0 : cap = 0
 subst hc0
 have hg2 := U2.af hg
 refine jm (ak (Lib.run_unsafeSliceData_zero _ _ _ 5 (by kernel_rfl) ⟨g, 0, none⟩ _ (5, cur.size) (by simp [World.shape?, hg2])) ⟨(Pj _ _).any, ?_⟩)
 refine aI (fun w3 U3 => ?_)
 refine ak (Lib.run_unsafeString_none _ _ _ _ _) ?_
 refine aI (fun w4 U4 => ?_)
 replace hF := hF.go0 U1
 exact ⟨rfl, (((hF.go0 U2).go0 (Pj _ _)).go0 U3).go0 U4⟩
 refine jm (ak (Lib.run_unsafeSliceData_row _ _ _ _ _ _ hc0) ⟨Fr.refl _ _ _, ?_⟩)
 refine aI (fun w3 U3 => ?_)
 refine ak (Lib.run_unsafeString_none _ _ _ _ _) ?_
 refine aI (fun w4 U4 => ?_)
 replace hF := hF.go0 U1
 exact ⟨rfl, ((hF.go0 U2).go0 U3).go0 U4⟩
 have hlp : 0 < l.length := List.length_pos_iff.2 hl0
 refine bJ (fun w' hw' => gZ (by kernel_rfl) _ _ _) ?_
 refine aI (fun w2 U2 => ?_)
 refine jm (ak (Lib.run_unsafeSliceData_row _ _ _ _ _ _ (by omega)) ⟨Fr.refl _ _ _, ?_⟩)
 refine aI (fun w3 U3 => ?_)
 have hg3 := U3.af (U2.af hg)
 have ho3 := (ho1.ai U2).ai U3
 refine ak (Lib.run_unsafeString_row w3 _ _ _ 5 (by kernel_rfl) (by kernel_rfl) g cur.size (by simp [World.shape?, hg3]) l hl0 (by omega) (by omega) (fun j x hx => ?_)) ?_
 obtain ⟨n', _, hor'⟩ := ho3
 rcases hor' with ⟨hv, _⟩ | ⟨g', cap', cur', hv, _, hg', _, _, _, htk'⟩
 cases hv
 cases hv
 have e : (⟨g, 0, none⟩ : Addr).add j = ⟨g, j, none⟩ := by
   unfold Addr.add; split
   · rename_i h; subst h; rfl
   · simp
 have h2 : (Lib.byteCells l)[j]? = some (.int .u8 x.toNat) := by simp [Lib.byteCells, hx]
 rw [← htk', List.getElem?_take] at h2
 split at h2
 rw [e, Lib.cell_of_heap hg']; simpa using h2
 cases h2
 refine aI (fun w4 U4 => ?_)
 replace hF := hF.go0 U1
 exact ⟨rfl, (((hF.go0 U2).go0 U3).go (Xy _ _ _) (fun i _ h => h)).go0 U4⟩
theorem abf {n : Int} {w : World} {gT : Nat} {eT : TypeId} {fT : Nat × Nat} (hgT : Tryz.prog.globalNamed "internal/strconv.uint64pow10" = some gT) (dO : w.heap[gT]? = some (.cells Gs.Af eT fT)) (hn : -9223372036854775808 ≤ n ∧ n ≤ 9223372036854775807) :
    oX 77 #[Z.i n] w fun e w' => e = .returned (.string (Gs.yj n)) ∧ aA no w w' :=
  (Go.Proofs.Tryz.strconv_Itoa n hn.1 hn.2 w (aiU hgT dO)).mono fun e w' ⟨h, k, os, hw⟩ => ⟨h, by
    subst hw
    exact Fr.of_below (Lib.below_grow w.heap.size w (Nat.le_refl _) k os)⟩
theorem abg {page : Int} {jO cur : Int} {al : Bool} {A : Option Addr} {n cp : Nat} {l : List Gs.It} {gT : Nat} {eT : TypeId} {fT : Nat × Nat} {w : World} (rd : Rd w A (rows Gs.ie l)) (hn : n = l.length) (ji : Gs.Cl w l) (hgT : Tryz.prog.globalNamed "internal/strconv.uint64pow10" = some gT) (dO : w.heap[gT]? = some (.cells Gs.Af eT fT)) (ha : 0 ≤ jO ∧ jO ≤ 255) (hcur : -9223372036854775808 ≤ cur ∧ cur ≤ 9223372036854775807) (hiw : Gs.Iw l) (hat : ∀ x ∈ l, -9223372036854775808 ≤ x.at' ∧ x.at' ≤ 9223372036854775807) (hbd : n ≤ 100000) (hcb : ∀ x ∈ l, x.cs.length ≤ 100000) :
    oX 38 #[Z.i page, .agg #[Z.u jO, .bool al, Z.i cur, .slice A n cp]] w fun e w' => e = .returned (.string ⟨(Gs.TG page ⟨jO, al, cur, Gs.its l⟩).toArray⟩) ∧ aA no w w' := by
 refine F38.calls ?_
 unfold F38
 have hgl := au dO
 have hns := Gs.MW ha
 have his := Gs.FW hcur
 have hds := Gs.adt ha hcur
 have h1s := Gs.WG
 have h2s := Gs.WH
 have h3s := Gs.PN
 have Zz := rd.lt
 have TI := ji.lt
 have hF : aA no w w := Fr.refl _ _ _
 refine Z.x (#[Z.u jO, .bool al, Z.i cur, .slice A n cp]) (fun b1 w1 e1 ah _ U1 => ?_)
 refine Z.f 1 ?_
 refine pK (kZ (by kernel_rfl) ah (by rfl)) (fun h2 => ?_) (fun h2 => ?_)
 refine aJ ?_
 refine Z.f 0 ?_
 refine Z.l ah ?_
 refine aB (EG ha) (fun w3 U3 => ?_)
 replace hF := (hF.go0 U1).go0 U3
 exact ⟨congrArg (fun s => Ending.returned (.string s)) ((Gs.str_eq _).trans (by rw [Gs.aiV (show al = true from by assumption)])), hF⟩
 refine aC ?_
 refine Z.n (#[.pointer none, .slice none 0 0]) (fun b5 w5 e5 bY _ U5 => ?_)
 replace rd := rd.ai U1
 have KJ := rd.apart e5
 replace ji := ji.ai U1
 have IE := ji.apart e5
 replace dO := U1.af dO
 have FX : gT ≠ b5 := by have := au dO; omega
 have gB : b1 ≠ b5 := by have := au ah; omega
 replace hF := hF.go0 U1
 have ik : w.heap.size ≤ b5 := by have := hF.size; omega
 have bld5 : lY w.heap.size _ b5 (.slice none 0 0) (Lib.byteCells []) := lY.new bY _
 clear bY e5
 refine dS (S := (· = b5)) (fun w6 U6 => ?_)
 refine Z.g 0 ?_
 replace ah := U6.af (U5.af ah)
 refine bJ (fun w' hw' => by have ah := hw'.aj ah gB; exact (kZ (by kernel_rfl) ah (by rfl))) ?_
 refine fO (fun w' hw' => EG ha) ?_
 refine bJ (fun w' hw' => (OC (by omega))) ?_
 refine Z.g 2 ?_
 refine bJ (fun w' hw' => by have ah := hw'.aj ah gB; exact (kZ (by kernel_rfl) ah (by rfl))) ?_
 replace dO := U6.af (U5.af dO)
 refine fO (fun w' hw' => by have dO := hw'.aj dO FX; exact abf hgT dO hcur) ?_
 refine bJ (fun w' hw' => (OC (by (simp only [Gs.vG]; omega)))) ?_
 refine aI (fun nR bK => ?_)
 replace hF := ((hF.go0 U5).go0 U6).go0 bK
 replace bld5 := (bld5.ai U6).ai bK
 refine aN (zZ bld5 (Nat.zero_le _) (by (simp only [Gs.vG]; omega)) (by have := hF.size; omega)) (fun x12 w12 D12 => ?_)
 obtain ⟨vb12, N12, di⟩ := D12
 have bld5_o := bld5
 replace rd := ((rd.ai U5).ai U6).ai bK
 replace rd := rd.dX di (KJ.elim .inl fun h1 => Zz.imp_right fun h2 k hk hs => Or.elim hs (fun e => absurd e (h1 k hk)) (fun h => by have := h2 k hk; have := lY.ge bld5_o h; omega))
 replace ji := ((ji.ai U5).ai U6).ai bK
 replace ji := ji.dX di (IE.elim .inl fun h1 => TI.imp_right fun h2 k hk hs => Or.elim hs (fun e => absurd e (h1 k hk)) (fun h => by have := h2 k hk; have := lY.ge bld5_o h; omega))
 replace dO := bK.af dO
 replace dO := di.get dO (fun hs => Or.elim hs (fun e => absurd e FX) (fun h => by (have := lY.ge bld5_o h; omega)))
 replace ah := bK.af ah
 replace ah := di.get ah (fun hs => Or.elim hs (fun e => absurd e gB) (fun h => Own.aS bld5_o.2.1 ah (by decide) _ h rfl))
 replace hF := hF.go di (fun i h hs => Or.elim hs (fun e => by have := ik; omega) (fun h => by have := lY.ge bld5_o h; omega))
 replace bld5 := N12
 clear bld5_o
 refine aI (fun vY dI => ?_)
 refine bM (fun g w' => ∃ (v5 : Value), (lY w.heap.size w' b5 v5 (Lib.byteCells ((Gs.JQ jO cur).data.toList ++ (Gs.its l).flatMap (Gs.Dw page)))) ∧ (aA no w w')) (fun J1 hJ1 => ?_) (fun gJ1 jT hI => ?_)
 refine Z.f 3 ?_
 replace ah := dI.af ah
 refine Z.l ah ?_
 refine ak (gZ (by kernel_rfl) _ _ _) ?_
 refine ed (fun g w' => ∃ (k : Nat) (v5 : Value), (g 28 = Z.i (k : Int)) ∧ (k ≤ l.length) ∧ (lY w.heap.size w' b5 v5 (Lib.byteCells ((Gs.JQ jO cur).data.toList ++ (Gs.its (l.take k)).flatMap (Gs.Dw page)))) ∧ (Z.h w' b1 #[Z.u jO, .bool al, Z.i cur, .slice A n cp] 48) ∧ (Rd w' A (rows Gs.ie l)) ∧ (Gs.Cl w' l) ∧ (w'.heap[gT]? = some (.cells Gs.Af eT fT)) ∧ (aA no w w')) (fun g w' => l.length - (RowKit.intOf (g 28)).toNat) ?_ (fun g2 qK hI => ?_)
 replace rd := rd.ai dI
 replace ji := ji.ai dI
 replace bld5 := bld5.ai dI
 replace dO := dI.af dO
 replace hF := hF.go0 dI
 exact ⟨0, _, (by rfl), Nat.zero_le _, (by simpa [Gs.JQ, Gs.its] using bld5), ah, rd, ji, dO, hF⟩
 replace rd := rd.ai dI
 replace ji := ji.ai dI
 replace bld5 := bld5.ai dI
 replace dO := dI.af dO
 replace hF := hF.go0 dI
 obtain ⟨k, v5, g28, hk, bld5, ah, rd, ji, dO, hF⟩ := hI
 rw [g28]
 have hfl := Gs.TJ (page := page) hiw hat hcb k
 refine az (lss _ _ _ _) (fun h14 => ?_) (fun h14 => ?_)
 refine aJ ?_
 refine bM (fun g w' => ∃ (v5 : Value), (lY w.heap.size w' b5 v5 (Lib.byteCells ((Gs.JQ jO cur).data.toList ++ (Gs.its (l.take (k + 1))).flatMap (Gs.Dw page)))) ∧ (Z.h w' b1 #[Z.u jO, .bool al, Z.i cur, .slice A n cp] 48) ∧ (Rd w' A (rows Gs.ie l)) ∧ (Gs.Cl w' l) ∧ (w'.heap[gT]? = some (.cells Gs.Af eT fT)) ∧ (aA no w w')) (fun J3 hJ3 => ?_) (fun gJ3 JO hI => ?_)
 refine sW Gs.Jp (by kernel_rfl) (by kernel_rfl) rd (by assumption) (by omega) (by omega) (fun x15 Bo => ?_)
 simp only [Int.toNat_natCast] at Bo
 refine Z.n (#[Z.i 0, .slice none 0 0]) (fun b16 w16 e16 iT _ bQ => ?_)
 have wI := bld5.apart e16
 have zH : b1 ≠ b16 := by have := au ah; omega
 have IG := rd.apart e16
 have FY := ji.apart e16
 have abh : gT ≠ b16 := by have := au dO; omega
 have Ii : w.heap.size ≤ b16 := by have := hF.size; omega
 refine Z.t 2 ((Gs.ie x15).toArray) (by (simp [Value.cells, Value.oneCell', Gs.cv, Gs.ie]; done)) iT (fun uS iT _ df => ?_)
 refine Z.f 0 ?_
 refine Z.l iT ?_
 replace dO := df.aj (bQ.af dO) abh
 refine aB (abf hgT dO (hat _ (List.mem_of_getElem? Bo))) (fun xx dM => ?_)
 refine bM (fun g w' => (g 8 = .string (Gs.PO x15.at')) ∧ (lY w.heap.size w' b5 v5 (Lib.byteCells ((Gs.JQ jO cur).data.toList ++ (Gs.its (l.take k)).flatMap (Gs.Dw page)))) ∧ (Z.h w' b1 #[Z.u jO, .bool al, Z.i cur, .slice A n cp] 48) ∧ (Z.h w' b16 ((Gs.ie x15).toArray) 54) ∧ (Rd w' A (rows Gs.ie l)) ∧ (Gs.Cl w' l) ∧ (w'.heap[gT]? = some (.cells Gs.Af eT fT)) ∧ (b16 ≠ b5) ∧ (aA no w w')) (fun J4 hJ4 => ?_) (fun gJ4 wJ4 hI => ?_)
 refine Z.f 0 ?_
 replace iT := dM.af iT
 refine Z.l iT ?_
 refine az (cZ _ _ _ _ _) (fun h19 => ?_) (fun h19 => ?_)
 refine aJ ?_
 refine hJ4 _ _ ?_
 replace bld5 := ((bld5.ai bQ).aF df wI).ai dM
 replace rd := ((rd.ai bQ).aF df IG).ai dM
 replace ji := ((ji.ai bQ).aF df FY).ai dM
 replace ah := dM.af (df.aj (bQ.af ah) zH)
 replace hF := ((hF.go0 bQ).go1 df Ii).go0 dM
 replace dO := dM.af dO
 exact ⟨(by (rw [Gs.PO, if_pos (by assumption)]; rfl)), bld5, ah, iT, rd, ji, dO, (fun e => wI _ (.inl rfl) e.symm), hF⟩
 refine aC ?_
 refine hJ4 _ _ ?_
 replace bld5 := ((bld5.ai bQ).aF df wI).ai dM
 replace rd := ((rd.ai bQ).aF df IG).ai dM
 replace ji := ((ji.ai bQ).aF df FY).ai dM
 replace ah := dM.af (df.aj (bQ.af ah) zH)
 replace hF := ((hF.go0 bQ).go1 df Ii).go0 dM
 replace dO := dM.af dO
 exact ⟨(by (rw [Gs.PO, if_neg (by assumption)]; rfl)), bld5, ah, iT, rd, ji, dO, (fun e => wI _ (.inl rfl) e.symm), hF⟩
 replace bld5 := ((bld5.ai bQ).aF df wI).ai dM
 replace rd := ((rd.ai bQ).aF df IG).ai dM
 replace ji := ((ji.ai bQ).aF df FY).ai dM
 replace ah := dM.af (df.aj (bQ.af ah) zH)
 replace hF := ((hF.go0 bQ).go1 df Ii).go0 dM
 replace dO := dM.af dO
 replace iT := dM.af iT
 obtain ⟨g8, bld5, ah, iT, rd, ji, dO, hne57, hF⟩ := hI
 rw [g8]
 have hps := Gs.TK (hat _ (List.mem_of_getElem? Bo))
 refine ak (OC (by omega)) ?_
 refine ak (OC (by (simp only [Gs.vG]; omega))) ?_
 refine aN (zZ bld5 (by simp only [List.length_append, Gs.Dx, Gs.vG]; omega) (by (simp only [Gs.vG]; omega)) (by have := hF.size; omega)) (fun x22 Ht D22 => ?_)
 obtain ⟨vb22, N22, gQ⟩ := D22
 have bld5_o := bld5
 replace rd := rd.dX gQ (KJ.elim .inl fun h1 => Zz.imp_right fun h2 k hk hs => Or.elim hs (fun e => absurd e (h1 k hk)) (fun h => by have := h2 k hk; have := lY.ge bld5_o h; omega))
 replace ji := ji.dX gQ (IE.elim .inl fun h1 => TI.imp_right fun h2 k hk hs => Or.elim hs (fun e => absurd e (h1 k hk)) (fun h => by have := h2 k hk; have := lY.ge bld5_o h; omega))
 replace ah := gQ.get ah (fun hs => Or.elim hs (fun e => absurd e gB) (fun h => Own.aS bld5_o.2.1 ah (by decide) _ h rfl))
 replace iT := gQ.get iT (fun hs => Or.elim hs (fun e => absurd e (by omega)) (fun h => Own.aS bld5_o.2.1 iT (by decide) _ h rfl))
 replace dO := gQ.get dO (fun hs => Or.elim hs (fun e => absurd e FX) (fun h => by (have := lY.ge bld5_o h; omega)))
 replace hF := hF.go gQ (fun i h hs => Or.elim hs (fun e => by have := ik; omega) (fun h => by have := lY.ge bld5_o h; omega))
 replace bld5 := N22
 clear bld5_o
 refine Z.f 1 ?_
 refine Z.l iT ?_
 refine ak (gZ (by kernel_rfl) _ _ _) ?_
 refine ed (fun g w' => ∃ (m : Nat) (v5 : Value), (g 45 = Z.i (m : Nat)) ∧ (m ≤ (x15).cs.length) ∧ (lY w.heap.size w' b5 v5 (Lib.byteCells ((Gs.JQ jO cur).data.toList ++ (Gs.its (l.take k)).flatMap (Gs.Dw page) ++ (⟨#[32]⟩ ++ Gs.PO x15.at' ++ ⟨#[61]⟩ : ByteArray).data.toList ++ ((x15).cs.take m).flatMap (Gs.MX page)))) ∧ (Z.h w' b1 #[Z.u jO, .bool al, Z.i cur, .slice A n cp] 48) ∧ (Z.h w' b16 ((Gs.ie x15).toArray) 54) ∧ (Rd w' A (rows Gs.ie l)) ∧ (Gs.Cl w' l) ∧ (w'.heap[gT]? = some (.cells Gs.Af eT fT)) ∧ (aA no w w')) (fun g w' => (x15).cs.length - (RowKit.intOf (g 45)).toNat) ?_ (fun g5 wl5 hI => ?_)
 exact ⟨0, _, rfl, (by omega), (by simpa using bld5), ah, iT, rd, ji, dO, hF⟩
 obtain ⟨m, v5, g45, hm, bld5, ah, iT, rd, ji, dO, hF⟩ := hI
 rw [g45]
 have hsl := Gs.agO (page := page) (xs := (x15).cs) (k := m) (hiw _ (List.mem_of_getElem? Bo))
 have hcl := hcb _ (List.mem_of_getElem? Bo)
 refine az (lss _ _ _ _) (fun h23 => ?_) (fun h23 => ?_)
 refine aJ ?_
 refine sW Gs.yu (by kernel_rfl) (by kernel_rfl) (ji.get Bo) (by rfl) (by omega) (by omega) (fun x24 hx24 => ?_)
 simp only [Int.toNat_natCast] at hx24
 refine Z.n ((Gs.cv Gs.zc).toArray) (fun b25 GV e25 ZA _ fZ => ?_)
 have Vz := bld5.apart e25
 have abj : b1 ≠ b25 := by have := au ah; omega
 have ZB : b16 ≠ b25 := by have := au iT; omega
 have abk := rd.apart e25
 have ZC := ji.apart e25
 have abl : gT ≠ b25 := by have := au dO; omega
 have aiW : w.heap.size ≤ b25 := by have := hF.size; omega
 refine Z.t 5 ((Gs.cv x24).toArray) (by (simp [Value.cells, Value.oneCell', Gs.cv, Gs.ie]; done)) ZA (fun LH ZA _ iW => ?_)
 refine Z.b 5 ((Gs.cv x24).toArray) ZA ?_
 refine aB (OB (hiw _ (List.mem_of_getElem? Bo) _ (List.mem_of_getElem? hx24))) (fun Ij gm => ?_)
 replace bld5 := ((bld5.ai fZ).aF iW Vz).ai gm
 replace hF := ((hF.go0 fZ).go1 iW aiW).go0 gm
 refine aN (zZ bld5 (by simp only [List.length_append, Gs.Dx, Gs.vG]; omega) (by have := Gs.adu (page := page) (hiw _ (List.mem_of_getElem? Bo) _ (List.mem_of_getElem? hx24)); omega) (by have := hF.size; omega)) (fun x28 V6 D28 => ?_)
 obtain ⟨vb28, N28, jG⟩ := D28
 have bld5_o := bld5
 replace rd := ((rd.ai fZ).aF iW abk).ai gm
 replace rd := rd.dX jG (KJ.elim .inl fun h1 => Zz.imp_right fun h2 k hk hs => Or.elim hs (fun e => absurd e (h1 k hk)) (fun h => by have := h2 k hk; have := lY.ge bld5_o h; omega))
 replace ji := ((ji.ai fZ).aF iW ZC).ai gm
 replace ji := ji.dX jG (IE.elim .inl fun h1 => TI.imp_right fun h2 k hk hs => Or.elim hs (fun e => absurd e (h1 k hk)) (fun h => by have := h2 k hk; have := lY.ge bld5_o h; omega))
 replace ah := gm.af (iW.aj (fZ.af ah) abj)
 replace ah := jG.get ah (fun hs => Or.elim hs (fun e => absurd e gB) (fun h => Own.aS bld5_o.2.1 ah (by decide) _ h rfl))
 replace iT := gm.af (iW.aj (fZ.af iT) ZB)
 replace iT := jG.get iT (fun hs => Or.elim hs (fun e => absurd e (by omega)) (fun h => Own.aS bld5_o.2.1 iT (by decide) _ h rfl))
 replace dO := gm.af (iW.aj (fZ.af dO) abl)
 replace dO := jG.get dO (fun hs => Or.elim hs (fun e => absurd e FX) (fun h => by (have := lY.ge bld5_o h; omega)))
 replace hF := hF.go jG (fun i h hs => Or.elim hs (fun e => by have := ik; omega) (fun h => by have := lY.ge bld5_o h; omega))
 replace bld5 := N28
 clear bld5_o
 refine ak (dK _ (by omega)) ?_
 exact ⟨⟨m + 1, _, rfl, (by omega), (by rw [Gs.abm hx24, ← List.append_assoc]; exact bld5), ah, iT, rd, ji, dO, hF⟩, cnt_lt (by rfl) rfl (by omega)⟩
 refine aC ?_
 refine hJ3 _ _ ?_
 exact ⟨_, (by rw [Gs.aiX Bo, ← List.append_assoc, ← List.append_assoc]; rw [List.take_of_length_le (l := (x15).cs) (by omega)] at bld5; exact bld5), ah, rd, ji, dO, hF⟩
 obtain ⟨v5, bld5, ah, rd, ji, dO, hF⟩ := hI
 refine ak (dK _ (by omega)) ?_
 exact ⟨⟨k + 1, _, (by rfl), by omega, bld5, ah, rd, ji, dO, hF⟩, cnt_lt (by rfl) rfl (by omega)⟩
 refine aC ?_
 refine hJ1 _ _ ?_
 exact ⟨_, (by rw [List.take_of_length_le (by omega)] at bld5; exact bld5), hF⟩
 replace bld5 := bld5.ai dI
 replace hF := hF.go0 dI
 obtain ⟨v5, bld5, hF⟩ := hI
 have hfl := Gs.TJ (page := page) hiw hat hcb l.length
 rw [List.take_length] at hfl
 refine aB (aaE bld5 (by simp only [List.length_append, Gs.Dx]; omega)) (fun V4 kz => ?_)
 replace hF := hF.go kz (fun i h hs => by have := lY.ge bld5 hs; omega)
 exact ⟨by rw [Gs.aiY (show al = false from by assumption)], hF⟩
end Go.Proofs.YtjdoakbadehicaaGreatDoor
end
section
namespace Gs
open Go Go.Sh
def aI1 : Inb := ⟨125, false, 2, [(1, [⟨193, false, false, 0, 0⟩])]⟩
theorem aiZ : wu [125, 64, 194, 17, 64, 193, 193] = .ok aI1 := by
 rw [ai0]
 have h : jJ [17, 64, 193, 193] = .ok [(1, [⟨193, false, false, 0, 0⟩])] := (TL (n := 6) (xs := [(1, [⟨193, false, false, 0, 0⟩])]) (by rfl)).1
 rw [h]; rfl
theorem ak8 : TG 37 aI1 = [69, 78, 84, 69, 82, 32, 64, 50, 32, 49, 61, 65] := by decide +kernel
theorem abo {l : List It} {L : List (Int × List Cell)} (h : its l = L) {p : Int → List Cell → Prop} (hp : ∀ y ∈ L, p y.1 y.2) : ∀ x ∈ l, p x.at' x.cs := fun x hx => hp (x.at', x.cs) (by rw [← h]; exact List.mem_map.2 ⟨x, hx, rfl⟩)
end Gs
end
section
namespace Go.Proofs.YtjdoakbadehicaaGreatDoor
open Go Go.Sh
set_option maxRecDepth 100000
set_option maxHeartbeats 2000000 in
theorem CY {gT : Nat} {eT : TypeId} {fT : Nat × Nat} {w : World} (hgT : Tryz.prog.globalNamed "internal/strconv.uint64pow10" = some gT) (dO : w.heap[gT]? = some (.cells Gs.Af eT fT))  :
    oX 8 #[] w fun e w' => e = .returned (.bool true) ∧ aA no w w' := by
 refine F8.calls ?_
 unfold F8
 have hgl := au dO
 have hF : aA no w w := Fr.refl _ _ _
 refine ak (bG (l := [(0, 1), (1, 1)]) (z := #[Z.i 0, Z.i 0]) (by kernel_rfl) (by (simp [eP, splice, gu, Value.cells, Gs.cv, Gs.fv, Gs.ie]; rfl))) ?_
 refine aN (yz (r := 1) (c := 6) (by decide)) (fun v1 w1 D1 => ?_)
 obtain ⟨bp, gp, rfl, gbp, ag, ae, U1⟩ := D1
 rw [show (Gs.aZ 1 6).toNat = 6 by decide] at ag ae
 have GR : gT ≠ bp := by have := au dO; omega
 have qJ : w.heap.size ≤ bp := by have := hF.size; omega
 have EZ : ¬ aH _ gT := fun h => by have := (Own.ge ae h).1; have := au dO; omega
 replace ae := ae.mono (B' := w.heap.size) hF.size
 refine Z.e ?_
 refine Z.e ?_
 refine ak (v := .bool false) (aed (e := 91) (by kernel_rfl)) ?_
 refine aC ?_
 refine ak (bG (l := [(0, 1), (1, 1), (2, 1), (3, 1), (4, 1)]) (z := #[Z.u 0, .bool false, .bool false, Z.u 0, Z.u 0]) (cs := Gs.cv ⟨0, false, true, 0, 0⟩) (by kernel_rfl) (by rfl)) ?_
 refine aN (jv ag ae (by rfl) (i := 0) (x := (⟨0, false, true, 0, 0⟩ : Gs.Cell))) (fun v3 w3 D3 => ?_)
 obtain ⟨rfl, N3, U3⟩ := D3
 have aK := ae
 replace dO := U1.af dO
 replace dO := U3.get dO EZ
 replace ag := U3.get ag (fun h => Own.aS aK ag (by decide) _ h rfl)
 replace ae := N3
 replace hF := hF.go0 U1
 replace hF := hF.go U3 (fun i h hs => by (have := (Own.ge aK hs).1; omega))
 clear aK
 rw [show Gs.jb (List.replicate 6 Gs.zc) 0 (⟨0, false, true, 0, 0⟩ : Gs.Cell) = ([⟨0, false, true, 0, 0⟩, Gs.zc, Gs.zc, Gs.zc, Gs.zc, Gs.zc] : List Gs.Cell) by decide +kernel] at ae
 refine aN (qR ag ae (by rfl) (i := 1)) (fun v4 w4 D4 => ?_)
 obtain ⟨rfl, N4, U4⟩ := D4
 replace ae := ae.aF U4 (Own.aS ae (by assumption) (by decide))
 replace ag := N4
 rw [if_pos (by decide)] at ag
 refine aN (QU ag ae (by rfl) (x := 193) (by decide) (by decide) (by decide) (by unfold Gs.jh Gs.Cw; decide : Gs.jh ([⟨0, false, true, 0, 0⟩, Gs.zc, Gs.zc, Gs.zc, Gs.zc, Gs.zc] : List Gs.Cell)) (by decide) (by decide +kernel) (by decide +kernel) (by decide +kernel) (by decide +kernel)) (fun v5 w5 D5 => ?_)
 obtain ⟨rfl, M5, N5, U5⟩ := D5
 have aK := ae
 replace ae := N5
 replace dO := U4.aj dO GR
 replace dO := U5.get dO (fun hs => Or.elim (show aH _ _ ∨ _ = _ from hs) EZ (fun hb => absurd hb GR))
 replace ag := M5
 replace hF := hF.go1 U4 qJ
 replace hF := hF.go U5 (fun i h hs => Or.elim (show aH _ _ ∨ _ = _ from hs) (fun hs => by (have := (Own.ge aK hs).1; omega)) (fun hb => by (subst hb; omega)))
 clear aK
 rw [show Gs.o5 (Gs.jb ([⟨0, false, true, 0, 0⟩, Gs.zc, Gs.zc, Gs.zc, Gs.zc, Gs.zc] : List Gs.Cell) 1 ⟨193, false, false, (Gs.bV ([⟨0, false, true, 0, 0⟩, Gs.zc, Gs.zc, Gs.zc, Gs.zc, Gs.zc] : List Gs.Cell) 1).l, (Gs.bV ([⟨0, false, true, 0, 0⟩, Gs.zc, Gs.zc, Gs.zc, Gs.zc, Gs.zc] : List Gs.Cell) 1).c⟩) 1 = ([⟨1, false, true, 0, 0⟩, ⟨193, false, false, 0, 0⟩, Gs.zc, Gs.zc, Gs.zc, Gs.zc] : List Gs.Cell) by decide +kernel] at ae
 rw [show ((1 : Int) + 1) % ((6 : Nat) : Int) = 2 by decide] at ag
 refine aN (ack ag ae (by rfl) (x := 125) (by decide) (by decide) (by decide) (by unfold Gs.jh Gs.Cw; decide : Gs.jh ([⟨1, false, true, 0, 0⟩, ⟨193, false, false, 0, 0⟩, Gs.zc, Gs.zc, Gs.zc, Gs.zc] : List Gs.Cell))) (fun v6 w6 D6 => ?_)
 obtain ⟨JC, U6⟩ := D6
 rw [show Gs.readB ([⟨1, false, true, 0, 0⟩, ⟨193, false, false, 0, 0⟩, Gs.zc, Gs.zc, Gs.zc, Gs.zc] : List Gs.Cell) 2 125 = [125, 64, 194, 17, 64, 193, 193] by decide +kernel] at JC
 obtain ⟨A22, c22, rfl, _⟩ := JC.bH
 replace JC := JC.mono (B' := w.heap.size) hF.size
 refine aN (Zx (bs := [125, 64, 194, 17, 64, 193, 193]) JC.Bl rfl JC.ajR (by intro x hx; simp at hx; omega) (by decide)) (fun v7 w7 D7 => ?_)
 obtain ⟨q23, l23, A23, c23, hq23, hi23, rfl, sK, Q7, hw23, gA23, gC23, ha23, U7⟩ := D7
 rw [show Gs.Oc [125, 64, 194, 17, 64, 193, 193] = Gs.aI1 from by unfold Gs.Oc; rw [Gs.aiZ]; try rfl] at hq23
 subst hq23
 rw [show Gs.acQ (Gs.wu [125, 64, 194, 17, 64, 193, 193]) = 0 from by rw [Gs.aiZ]; rfl]
 replace hi23 : Gs.its l23 = (Gs.aI1 : Gs.Inb).items := hi23.symm
 refine Z.e ?_
 refine Z.e ?_
 refine Z.n (#[Z.u 0, .bool false, Z.i 0, .slice none 0 0]) (fun b8 w8 e8 mg _ U8 => ?_)
 replace dO := U7.af (U6.af dO)
 have aep : gT ≠ b8 := by have := au dO; omega
 have aav := sK.apart e8
 have VU := Q7.apart e8
 replace hF := (hF.go0 U6).go0 U7
 have FK : w.heap.size ≤ b8 := by have := hF.size; omega
 refine Z.t 4 (#[Z.u 125, .bool false, Z.i 2, .slice A23 l23.length c23]) (by (simp [Value.cells, Value.oneCell', Gs.cv, Gs.fv, Gs.ie]; done)) mg (fun w9 mg _ U9 => ?_)
 refine wQ (cZ _ _ _ _ _) (by rfl) ?_
 refine aX (aX ?_)
 refine wQ (cZ _ _ _ _ _) (by rfl) ?_
 refine aT (aX ?_)
 refine Z.b 4 (#[Z.u 125, .bool false, Z.i 2, .slice A23 l23.length c23]) mg ?_
 refine aX ?_
 replace sK := (sK.ai U8).aF U9 aav
 replace Q7 := (Q7.ai U8).aF U9 VU
 replace dO := U9.aj (U8.af dO) aep
 refine aB (abg (page := 37) sK rfl Q7 hgT dO (by decide) (by decide) hw23 (Gs.abo hi23 (p := fun p _ => -9223372036854775808 ≤ p ∧ p ≤ 9223372036854775807) (by decide)) (by have := congrArg List.length hi23; rw [Gs.Jq] at this; rw [this]; decide) (Gs.abo hi23 (p := fun _ c => c.length ≤ 100000) (by decide))) (fun w10 aY => ?_)
 rw [hi23, show Gs.TG 37 ⟨125, false, 2, Gs.aI1.items⟩ = _ from Gs.ak8]
 refine aX ?_
 refine wQ (eqS _ _ _ _) (by rfl) ?_
 refine aT (aX ?_)
 refine aB (DU (page := 37) (b := 193)) (fun nR bK => ?_)
 refine aX ?_
 refine wQ (cZ _ _ _ _ _) (by rfl) ?_
 refine aT ?_
 replace hF := (((hF.go0 U8).go1 U9 FK).go0 aY).go0 bK
 exact ⟨rfl, hF⟩
end Go.Proofs.YtjdoakbadehicaaGreatDoor
end
section
namespace Gs
open Go Go.Sh
def RP : List Int := [245, 195, 17, 64, 67, 193]
theorem aaM : iw [17, 64, 67, 193] = ([⟨17, 3, 0, false, [], []⟩, ⟨0, 0, 0, false, [], [193]⟩], 0) := by
 rw [zI (by decide) (show jf [17, 64, 67, 193] = .ok (⟨17, 3, 0, false, [], []⟩, [193]) from by rfl), zI (by decide) (show jf [193] = .ok (⟨0, 0, 0, false, [], [193]⟩, []) from by rfl), rH]
theorem acZ : gJ 6 RP = (⟨⟨245, 195, [⟨17, 3, 0, false, [], []⟩, ⟨0, 0, 0, false, [], [193]⟩], 0⟩, []⟩, 0) := by
 rw [show gJ 6 RP = (⟨⟨245, 195, (iw [17, 64, 67, 193]).1, (iw [17, 64, 67, 193]).2⟩, []⟩, 0) from rfl, aaM]
theorem aaN : yP (RQ 1 6) RP = (⟨1, 6, 1, 6, 0, 1, 6, [zc, zc, zc, ⟨193, false, false, 0, 0⟩, zc, zc], 0⟩, ⟨0, true, false, 0⟩) := by
 rw [RS (b := RP) acZ rfl]
 rfl
theorem Vk (w : Int) : gJ 2 [241, w] = (⟨⟨241, w, [], 0⟩, []⟩, 0) := by
 rw [show gJ 2 [241, w] = (⟨⟨241, w, (iw []).1, (iw []).2⟩, []⟩, 0) from rfl, rH]
theorem Pv (s : iL) (w : Int) : yP s [241, w] = (BD s w, ⟨0, decide (w / 2 % 2 = 1), decide (w / 4 % 2 = 1), 0⟩) := by
 rw [RS (b := [241, w]) (Vk w) rfl]
 show oM s ⟨241, w, [], 0⟩ = _
 rw [aeG rfl]
 unfold qy
 show (_, Og _ (if (0 : Int) = 0 then 0 else 0)) = _
 rw [if_pos rfl, aaO rfl]
 rfl
end Gs
end
section
namespace Go.Proofs.YtjdoakbadehicaaGreatDoor
open Go Go.Sh
set_option maxRecDepth 100000
set_option maxHeartbeats 2000000 in
theorem Az {w : World} :
    oX 25 #[] w fun e w' => e = .returned (.bool true) ∧ aA no w w' := by
 refine F25.calls ?_
 unfold F25
 have hz6 : Gs.aZ 1 6 ≠ 0 := by decide
 have hS := Gs.abS hz6
 have hF : aA no w w := Fr.refl _ _ _
 refine ak (bG (l := [(0, 1), (1, 1)]) (z := #[Z.i 0, Z.i 0]) (cs := [Z.i 1, Z.i 6]) (by kernel_rfl) (by rfl)) ?_
 refine ak (bG (l := [(0, 1), (1, 1)]) (z := #[Z.i 0, Z.i 0]) (cs := [Z.i 1, Z.i 6]) (by kernel_rfl) (by rfl)) ?_
 refine aN (Nb (r0 := 1) (c0 := 6) (r1 := 1) (c1 := 6) hz6 hz6) (fun v3 w3 D3 => ?_)
 obtain ⟨bs, bp, gg, rfl, gbs, gbp, ay, ag, ae, U3⟩ := D3
 replace ae := ae.mono (B' := w.heap.size) hF.size
 refine Z.e ?_
 refine Z.e ?_
 refine ak (v := .bool false) (aed (e := 89) (by kernel_rfl)) ?_
 refine bD (bD ?_)
 refine aB (jH ay) (fun w4 U4 => ?_)
 refine bD ?_
 refine ak (v := .bool false) (aed (e := 91) (by kernel_rfl)) ?_
 refine aU (aC ?_)
 refine dN (e := 5) (m := 1) (z := #[Z.u 0]) (by kernel_rfl) (by kernel_rfl) (by rfl) (by decide) (by (simp [eP, splice, gu, Value.cells, Gs.cv, Gs.fv, Gs.ie, Gs.pe, Gs.oe, Gs.cO, Gs.fe, Gs.fM, Gs.ce, Gs.dZ, Gs.re, Gs.de, Gs.ie]; rfl)) (fun b5 w5 e5 bY _ U5 => ?_)
 replace ay := U4.af ay
 have aer : bs ≠ b5 := by have := au ay; omega
 replace ag := U4.af ag
 have jW : bp ≠ b5 := by have := au ag; omega
 replace ae := ae.ai U4
 have jr := ae.apart e5
 replace hF := ((hF.go0 U3).go0 U4).go0 U5
 replace ae := ae.ai U5
 replace ay := U5.af ay
 replace ag := U5.af ag
 refine aN (IV (s := Gs.RQ 1 6) (b := Gs.RP) ay ag ae hS (by have := hF.size; omega) (Rd.nS (xs := vals .u8 Gs.RP) bY) rfl (by decide) (by unfold Gs.RP Bs; decide) (by decide) (.inr (fun k hk hs => by obtain ⟨a, ea, ek⟩ := hk; cases ea; exact jr _ hs ek.symm)) (.inr (fun k hk e => by obtain ⟨a, ea, ek⟩ := hk; cases ea; exact jW (e.symm.trans ek.symm))) (.inr (fun k hk e => by obtain ⟨a, ea, ek⟩ := hk; cases ea; exact aer (e.symm.trans ek.symm)))) (fun v6 w6 D6 => ?_)
 have aK := ae
 have qF6 := hF.size
 obtain ⟨rfl, bp19, A19, n19, cp19, ay, zX, xP, hn19, hb19, ho19, U6⟩ := D6
 rw [Gs.aaN] at ay zX xP hn19
 rw [Gs.aaN]
 replace hF := hF.go U6 (fun i hi hs => by (rcases hs with (hs | hs) | hs <;> first | (subst hs; omega) | (have := (Own.ge aK hs).1; omega)))
 clear aK
 refine Z.n ((Gs.re Gs.pW).toArray) (fun b7 w7 e7 kW _ U7 => ?_)
 have GU : bs ≠ b7 := by have := au ay; omega
 have aaw : bp19 ≠ b7 := by have := au zX; omega
 have QV := xP.apart e7
 have uH : w.heap.size ≤ b7 := by have := hF.size; omega
 refine Z.t 4 ((Gs.re ⟨0, true, false, 0⟩).toArray) (by (simp [Value.cells, Value.oneCell', Gs.cv, Gs.fv, Gs.ie, Gs.pe, Gs.oe, Gs.cO, Gs.fe, Gs.fM, Gs.ce, Gs.dZ, Gs.re, Gs.de, Gs.ie]; done)) kW (fun w8 kW _ U8 => ?_)
 refine wQ (cZ _ _ _ _ _) (rfl) ?_
 refine aX ?_
 refine Z.f 1 ?_
 refine aX ?_
 refine Z.l kW ?_
 refine aT (aX (aX ?_))
 replace ay := U8.aj (U7.af ay) GU
 refine aB (jH ay) (fun w9 U9 => ?_)
 refine aX ?_
 replace xP := ((xP.ai U7).aF U8 QV).ai U9
 replace zX := U9.af (U8.aj (U7.af zX) aaw)
 refine aB (iF zX xP hn19 (i := 3)) (fun w10 aY => ?_)
 refine aX ?_
 refine ak (qX (off := 0) (by kernel_rfl) (by rfl)) ?_
 refine aX ?_
 refine wQ (cZ _ _ _ _ _) (by rfl) ?_
 refine aT (aX (aX ?_))
 replace ay := aY.af (U9.af ay)
 refine aB (jH ay) (fun nR bK => ?_)
 refine aX ?_
 replace xP := (xP.ai aY).ai bK
 replace zX := bK.af (aY.af zX)
 refine WV (Au zX xP hn19 (by rw [hn19]; decide) (by rw [hn19]; decide)) (by decide +kernel) (fun w12 di => ?_)
 refine aX ?_
 refine ak (nI) ?_
 refine aT ?_
 replace hF := (((((hF.go0 U7).go1 U8 uH).go0 U9).go0 aY).go0 bK).go0 di
 exact ⟨rfl, hF⟩
end Go.Proofs.YtjdoakbadehicaaGreatDoor
end
section
namespace Gs
open Go Go.Sh
theorem PZ (x : Cell) : (yU false x).b % 2 = 0 := by
 have : (yU false x).b = x.b - x.b % 2 := rfl
 omega
theorem adN {cs : List Cell} {s : Nat} (hs : s < cs.length) : ∀ (l : List Nat) (c : List Cell), c.length = cs.length → ((bV c s).b % 2 = 0 ∨ ((bV c s).b = (bV cs s).b ∧ s ∈ l)) →
  (bV (l.foldl (fun c s => if Ae cs s = true then qQ false c s else c) c) s).b % 2 = 0 := by
 intro l
 induction l with
 | nil => intro c _ h; rcases h with h | ⟨_, h⟩; exact h; cases h
 | cons a l ih =>
  intro c hc h
  rw [List.foldl_cons]
  have hev : ∀ t : Nat, (bV c s).b % 2 = 0 → (bV (qQ false c t) s).b % 2 = 0 := by
   intro t he
   rw [yV]
   split
   ·exact PZ _
   ·exact he
  refine ih _ (by split; rw [BQ]; exact hc; exact hc) ?_
  rcases h with h | ⟨h, hm⟩
  ·left; split; exact hev _ h; exact h
  ·by_cases ha : a = s
   ·left
    subst ha
    split
    ·rw [yV, if_pos ⟨rfl, by omega, by omega⟩]; exact PZ _
    ·rename_i ho
     unfold Ae at ho
     rw [decide_eq_true_eq] at ho
     omega
   ·right
    refine ⟨?_, by rcases List.mem_cons.1 hm with e | e; exact absurd e.symm ha; exact e⟩
    split
    ·rw [yV, if_neg (by rintro ⟨h2, _⟩; omega)]; exact h
    ·exact h
def xN (cs : List Cell) (l : List Int) : Prop := ∀ i : Int, (0 ≤ i ∧ i < cs.length) → stB cs i = true → ((bV cs i).b % 2 = 1 ↔ i ∈ l)
theorem ahc (cs : List Cell) : xN (qP cs (bU cs)) [] := by
 intro i h0 hs
 rw [← ED] at h0
 rw [Tt] at hs
 obtain ⟨s, rfl⟩ := Int.eq_ofNat_of_zero_le h0.1
 have hm : s ∈ bU cs := qc.2 ⟨by omega, hs⟩
 have h := adN (cs := cs) (s := s) (by omega) (bU cs) cs rfl (.inr ⟨rfl, hm⟩)
 refine ⟨fun h2 => ?_, fun h2 => by cases h2⟩
 have h3 : (bV (qP cs (bU cs)) s).b % 2 = 0 := h
 omega
theorem xN.kp {cs c1 : List Cell} {l : List Int} (h : xN cs l) (k : Kp cs c1) : xN c1 l := by
 intro i h0 hs
 rw [(k.2 i).1] at hs
 rw [(k.2 i).2 hs]
 exact h i (by have := k.1; omega) hs
theorem xN.mark {cs : List Cell} {l : List Int} (h : xN cs l) {i : Int} (hb : ¬ gz cs i < 0) : xN (o5 cs i) (gz cs i :: l) := by
 rw [Tf hb]
 have hr := Ox hb
 intro j h0 hs
 rw [BQ] at h0
 rw [Tc] at hs
 rw [yV]
 split
 ·rename_i e
  refine ⟨fun _ => e.1 ▸ List.mem_cons_self .., fun _ => ?_⟩
  have e3 : (yU true (bV cs (gz cs i))).b = (bV cs (gz cs i)).b - (bV cs (gz cs i)).b % 2 + 1 := rfl
  omega
 ·rename_i e
  rw [h j h0 hs, List.mem_cons]
  exact ⟨.inr, fun h2 => h2.elim (fun e2 => absurd ⟨e2.symm, hr⟩ e) id⟩
theorem xN.mk {cs c1 : List Cell} {l : List Int} (h : xN cs l) {i : Int} (k : Mk cs c1 i) (hb : ¬ gz cs i < 0) : xN c1 (gz cs i :: l) := by
 obtain ⟨c0, h1, rfl⟩ := k
 rw [← h1.SI i] at hb ⊢
 exact (h.kp h1).mark hb
theorem xN.mk0 {cs c1 : List Cell} {l : List Int} (h : xN cs l) {i : Int} (k : Mk cs c1 i) (hb : gz cs i < 0) : xN c1 l := by
 obtain ⟨c0, h1, rfl⟩ := k
 rw [← h1.SI i] at hb
 rw [Oo hb]
 exact h.kp h1
def iH (k : Int) : Prop := k = 1 ∨ k = 10 ∨ k = 12 ∨ k = 14 ∨ k = 15
instance (k : Int) : Decidable (iH k) := by unfold iH; exact inferInstance
theorem xN.iU {cs c1 : List Cell} {l : List Int} (h : xN cs l) {k e st cur : Int} (hp : PR k e st cs c1 cur) (hk : k ≠ 11) (hst : st = 1) :
  xN c1 (if e = 0 ∧ iH k ∧ 0 ≤ gz cs cur then gz cs cur :: l else l) := by
 rcases hp hk with ⟨h1, h2, h3, h4⟩ | ⟨rfl, h2⟩
 ·by_cases hb : gz cs cur < 0
  ·rw [if_neg (fun h => by omega)]; exact h.mk0 h4 hb
  ·rw [if_pos ⟨h2, h1, by omega⟩]; exact h.mk h4 hb
 ·rw [if_neg (fun h3 => h2 h3.1 hst h3.2.1)]; exact h
end Gs
namespace Go.Sh
open Go
theorem VJ {P : Program} {w : World} {t kt e : TypeId} {i : IntKind} {b : Nat} {l : List (Int × Value)} {n : Int} {z : Value} {o : Option Value} (ht : Uj P t = some (kt, i, e)) (hz : wX P e = some #[z]) (hz1 : (match P.info? e with | some inf => inf.zero | none => none) = some z)
  (hm : qg w i b l) (hg : rQ l n = o) : (Instr.lookup t (.map (some b)) (.int i n) false).run P w = .ok (o.getD z) w := by
 obtain ⟨hu, hk⟩ := P5 ht
 obtain ⟨es, c, hb, he⟩ := hm
 obtain ⟨r, h1, h2, _⟩ := Ed (n := n) es.toList l 0 he
 have hf := MapKept.run_findKey (w := w) (kt := kt) hk h1
 have hck : ∀ e, (Instr.checkKey e 10000 kt (.int i n)).run P w = .ok () w := fun e => MapKept.run_checkKey hk (by simp [MapKept.IsKey]) e 9999
 rw [hg] at h2
 have hz2 : (zeroValue e).run P w = .ok z w := by
  split at hz1
  ·rename_i inf hi
   simp [zeroValue, typeInfo, hi, hz1, Sem.run_bind, Result.andThen]
  ·cases hz1
 cases r with
 | none =>
  simp at h2; subst h2
  simp [Instr.lookup, Sem.run_bind, Result.andThen, run_underlying hu, hb, hck, hf, hz2, getObj, Sem.run]
 | some p =>
  obtain ⟨j, v⟩ := p
  simp at h2; subst h2
  simp [Instr.lookup, Sem.run_bind, Result.andThen, run_underlying hu, hb, hck, hf, getObj, Sem.run]
end Go.Sh
namespace Gs
open Go Go.Sh
def He (m : List (Int × Value)) (l : List Int) : Prop := ∀ i : Int, rQ m i = if i ∈ l then some (.bool true) else none
theorem He.nil : He [] [] := fun i => by rw [if_neg (by intro h; cases h)]; rfl
theorem He.set {m : List (Int × Value)} {l : List Int} (h : He m l) (n : Int) : He (zl m n (.bool true)) (n :: l) := fun i => by
 rw [abT]
 by_cases e : n = i
 ·rw [if_pos e, if_pos (e ▸ List.mem_cons_self ..)]
 ·rw [if_neg e, h i]
  by_cases hl : i ∈ l
  ·rw [if_pos hl, if_pos (List.mem_cons_of_mem _ hl)]
  ·rw [if_neg hl, if_neg (fun h2 => by rcases List.mem_cons.1 h2 with e2 | e2; exact e e2.symm; exact hl e2)]
theorem He.val {m : List (Int × Value)} {l : List Int} (h : He m l) (i : Int) : (rQ m i).getD (.bool false) = .bool (decide (i ∈ l)) := by
 rw [h i]
 split
 ·rename_i h2; rw [decide_eq_true h2]; rfl
 ·rename_i h2; rw [decide_eq_false h2]; rfl
end Gs
namespace Go.Sh
open Go
theorem adO {P : Program} {w : World} {t kt e : TypeId} {b : Nat} {m : List (Int × Value)} {l : List Int} {n : Int} (ht : Uj P t = some (kt, .i64, e)) (hz : wX P e = some #[.bool false]) (hz1 : (match P.info? e with | some inf => inf.zero | none => none) = some (.bool false))
  (hm : qg w .i64 b m) (hT : Gs.He m l) : (Instr.lookup t (.map (some b)) (.int .i64 n) false).run P w = .ok (.bool (decide (n ∈ l))) w := by
 rw [VJ ht hz hz1 hm rfl, hT.val]
end Go.Sh
end
section
namespace Go.Proofs.YtjdoakbadehicaaGreatDoor
open Go Go.Sh
set_option maxRecDepth 100000
theorem NT {r c : Int} {ds : List Gs.lK} {dA : Option Addr} {dc : Nat} {gT : Nat} {eT : TypeId} {fT : Nat × Nat} {w : World} (hgT : Tryz.prog.globalNamed "internal/strconv.uint64pow10" = some gT) (dO : w.heap[gT]? = some (.cells Gs.Af eT fT)) (jk : Rd w dA (rows Gs.de ds)) (jl : Gs.uk w ds) (hdw : Gs.MB ds) (hdn : ds.length ≤ maxLen) (hok : ¬ Gs.Eb r c ds) {kA : Option Addr} {kc : Nat} {ks : List (Int × Int)} (dD : Rd w kA (rows Gs.kv ks)) (hkw : ∀ a ∈ ks, Gs.Kw a) (hkn : ks.length ≤ maxLen)  :
    oX 5 #[.agg #[Z.i r, Z.i c], .slice dA ds.length dc, .slice kA ks.length kc] w fun e w' => e = .returned (.bool true) ∧ aA no w w' := by
 refine F5.calls ?_
 unfold F5
 have hF : aA no w w := Fr.refl _ _ _
 refine Z.x (#[Z.i r, Z.i c]) (fun b1 w1 e1 ah _ U1 => ?_)
 replace dO := U1.af dO
 refine EP (CY hgT dO) (rfl) (fun w2 U2 => ?_)
 refine ak (lV) ?_
 refine bD ?_
 refine EP (Az) (rfl) (fun w3 U3 => ?_)
 refine bD ?_
 refine ak (lV) ?_
 refine aU (aC ?_)
 replace ah := U3.af (U2.af ah)
 refine Z.b 2 (#[Z.i r, Z.i c]) ah ?_
 replace jk := ((jk.ai U1).ai U2).ai U3
 replace jl := ((jl.ai U1).ai U2).ai U3
 refine aB (aac jk jl hdw hdn hok) (fun w4 U4 => ?_)
 refine Z.e ?_
 refine Z.e ?_
 refine Z.e ?_
 refine ak (nI) ?_
 refine bu (bu (bu (aT (aJ ?_))))
 replace hF := (((hF.go0 U1).go0 U2).go0 U3).go0 U4
 exact ⟨rfl, hF⟩
set_option maxHeartbeats 4000000 in
theorem NU {r c : Int} {ds : List Gs.lK} {dA : Option Addr} {dc : Nat} {gT : Nat} {eT : TypeId} {fT : Nat × Nat} {w : World} (hgT : Tryz.prog.globalNamed "internal/strconv.uint64pow10" = some gT) (dO : w.heap[gT]? = some (.cells Gs.Af eT fT)) (jk : Rd w dA (rows Gs.de ds)) (jl : Gs.uk w ds) (hdw : Gs.MB ds) (hdn : ds.length ≤ maxLen) (hok : Gs.Eb r c ds) {kA : Option Addr} {kc : Nat} {ks : List (Int × Int)} (dD : Rd w kA (rows Gs.kv ks)) (hkw : ∀ a ∈ ks, Gs.Kw a) (hkn : ks.length ≤ maxLen)  :
    oX 5 #[.agg #[Z.i r, Z.i c], .slice dA ds.length dc, .slice kA ks.length kc] w fun e w' => e = .returned (.bool true) ∧ aA no w w' := by
 refine F5.calls ?_
 unfold F5
 have hlk : G9 kA (rows Gs.kv ks) w.heap.size := dD.lt
 have lt_h_gT := au dO
 have lt_rdd := jk.lt
 have lt_rde := jl.lt
 have lt_rdk := dD.lt
 have hF : aA no w w := Fr.refl _ _ _
 refine Z.x (#[Z.i r, Z.i c]) (fun b1 w1 e1 ah _ U1 => ?_)
 have anD : gT ≠ b1 := by have := au dO; omega
 have amG := jk.apart e1
 have amH := jl.apart e1
 have amI := dD.apart e1
 have bZ : w.heap.size ≤ b1 := by have := hF.size; omega
 replace dO := U1.af dO
 refine EP (CY hgT dO) (rfl) (fun w2 U2 => ?_)
 refine ak (lV) ?_
 refine bD ?_
 refine EP (Az) (rfl) (fun w3 U3 => ?_)
 refine bD ?_
 refine ak (lV) ?_
 refine aU (aC ?_)
 replace ah := U3.af (U2.af ah)
 refine Z.b 2 (#[Z.i r, Z.i c]) ah ?_
 replace jk := ((jk.ai U1).ai U2).ai U3
 replace jl := ((jl.ai U1).ai U2).ai U3
 refine aN (aad jk jl hdw hdn hok) (fun v4 w4 D4 => ?_)
 obtain ⟨s, bs, bk, bp, A, n, cp, st, why, tn, last, ins, rfl, gbs, gbk, gbp, hst, hS, hone, hn60, aG, ay, ag, ae, U4⟩ := D4
 have hW := hS.2
 obtain ⟨hn, hcw, hcu, hp, hN, hb⟩ := id hW
 replace dO := U3.af (U2.af dO)
 have aes : gT ≠ bk := by have := au dO; omega
 have vK := (jk.lt).ne (b := bk) (by omega)
 have vM := (jl.lt).ne (b := bk) (by omega)
 replace dD := ((dD.ai U1).ai U2).ai U3
 have zY := (dD.lt).ne (b := bk) (by omega)
 have aet : b1 ≠ bk := by have := au ah; omega
 replace hF := ((hF.go0 U1).go0 U2).go0 U3
 have Jt : w.heap.size ≤ bk := by have := hF.size; omega
 have aeu : gT ≠ bs := by have := au dO; omega
 have DD := (jk.lt).ne (b := bs) (by omega)
 have DF := (jl.lt).ne (b := bs) (by omega)
 have acC := (dD.lt).ne (b := bs) (by omega)
 have aev : b1 ≠ bs := by have := au ah; omega
 have ge_bs : w.heap.size ≤ bs := by have := hF.size; omega
 have GR : gT ≠ bp := by have := au dO; omega
 have acD := (jk.lt).ne (b := bp) (by omega)
 have acE := (jl.lt).ne (b := bp) (by omega)
 have acF := (dD.lt).ne (b := bp) (by omega)
 have KT : b1 ≠ bp := by have := au ah; omega
 have qJ : w.heap.size ≤ bp := by have := hF.size; omega
 have ahS : ¬ aH _ gT := fun h => by have := (Own.ge ae h).1; have := au dO; omega
 have QW : _ ∨ ∀ k, _ → ¬ aH _ k := (jk.lt).imp_right fun h k hk hs => by have := h k hk; have := (Own.ge ae hs).1; omega
 have QX : _ ∨ ∀ k, _ → ¬ aH _ k := (jl.lt).imp_right fun h k hk hs => by have := h k hk; have := (Own.ge ae hs).1; omega
 have QY : _ ∨ ∀ k, _ → ¬ aH _ k := (dD.lt).imp_right fun h k hk hs => by have := h k hk; have := (Own.ge ae hs).1; omega
 have ahT : ¬ aH _ b1 := fun h => by have := (Own.ge ae h).1; have := au ah; omega
 replace ae := ae.mono (B' := w.heap.size) hF.size
 refine Z.e ?_
 refine Z.e ?_
 refine Z.e ?_
 refine ak (lV) ?_
 refine bD (bD ?_)
 refine ak (gZ (by kernel_rfl) _ _ _) ?_
 refine bD ?_
 refine az (gtr _ _ _ _) (fun h5 => ?_) (fun h5 => ?_)
 refine aU (aJ ?_)
 replace hF := hF.go0 U4
 exact ⟨rfl, hF⟩
 refine aU (aC ?_)
 refine dN (e := 5) (m := 1) (z := #[Z.u 0]) (by kernel_rfl) (by kernel_rfl) (by rfl) (by decide) (by (simp [eP, splice, gu, Value.cells, Gs.cv, Gs.fv, Gs.ie, Gs.pe, Gs.oe, Gs.cO, Gs.fe, Gs.fM, Gs.ce, Gs.dZ, Gs.re, Gs.de, Gs.ie, Gs.kv]; rfl)) (fun b7 w7 e7 kW _ U7 => ?_)
 replace dO := U4.af dO
 have anE : gT ≠ b7 := by have := au dO; omega
 replace jk := jk.ai U4
 have amJ := jk.apart e7
 replace jl := jl.ai U4
 have amK := jl.apart e7
 replace dD := dD.ai U4
 have amL := dD.apart e7
 replace ah := U4.af ah
 have Fh : b1 ≠ b7 := by have := au ah; omega
 have aew : bk ≠ b7 := by have := au aG; omega
 have GU : bs ≠ b7 := by have := au ay; omega
 have zh : bp ≠ b7 := by have := au ag; omega
 have wK := ae.apart e7
 replace hF := hF.go0 U4
 have uH : w.heap.size ≤ b7 := by have := hF.size; omega
 replace ae := ae.ai U7
 replace ay := U7.af ay
 replace ag := U7.af ag
 replace hF := hF.go0 U7
 refine aN (IV (s := s) (b := [241, 3]) ay ag ae hS (by have := hF.size; omega) (Rd.nS (xs := vals .u8 [241, 3]) kW) rfl (by decide) (by unfold Bs; decide) (by decide) (.inr (fun k hk hs => by obtain ⟨a, ea, ek⟩ := hk; cases ea; exact wK _ hs ek.symm)) (.inr (fun k hk e => by obtain ⟨a, ea, ek⟩ := hk; cases ea; exact zh (e.symm.trans ek.symm))) (.inr (fun k hk e => by obtain ⟨a, ea, ek⟩ := hk; cases ea; exact GU (e.symm.trans ek.symm)))) (fun v8 w8 D8 => ?_)
 have aK := ae
 have qF8 := hF.size
 obtain ⟨rfl, bp42, A42, n42, cp42, ay, aV, aP, hn42, hb42, ho42, U8⟩ := D8
 rw [Gs.Pv] at ay aV aP hn42
 rw [Gs.Pv]
 replace dO := U7.af dO
 replace dO := U8.get dO (fun hs => by rcases hs with (hs | hs) | hs <;> first | ((have := Own.ge aK hs; omega)) | (exact absurd hs GR) | (exact absurd hs aeu))
 replace jk := jk.ai U7
 replace jk := jk.dX U8 (QW.elim .inl fun h0 => acD.elim .inl fun h1 => DD.elim .inl fun h2 => .inr fun k hk hs => by rcases hs with (hs | hs) | hs <;> first | exact h0 k hk hs | exact h1 k hk hs | exact h2 k hk hs)
 replace jl := jl.ai U7
 replace jl := jl.dX U8 (QX.elim .inl fun h0 => acE.elim .inl fun h1 => DF.elim .inl fun h2 => .inr fun k hk hs => by rcases hs with (hs | hs) | hs <;> first | exact h0 k hk hs | exact h1 k hk hs | exact h2 k hk hs)
 replace dD := dD.ai U7
 replace dD := dD.dX U8 (QY.elim .inl fun h0 => acF.elim .inl fun h1 => acC.elim .inl fun h2 => .inr fun k hk hs => by rcases hs with (hs | hs) | hs <;> first | exact h0 k hk hs | exact h1 k hk hs | exact h2 k hk hs)
 replace ah := U7.af ah
 replace ah := U8.get ah (fun hs => by rcases hs with (hs | hs) | hs <;> first | (first | exact Own.aS aK ah (by decide) _ hs rfl | (have := Own.ge aK hs; omega)) | (exact absurd hs KT) | (exact absurd hs aev))
 replace aG := U7.af aG
 replace aG := U8.get aG (fun hs => by rcases hs with (hs | hs) | hs <;> first | (first | exact Own.aS aK aG (by decide) _ hs rfl | (have := Own.ge aK hs; omega)) | (exact absurd hs (by exact dW (by assumption) (by assumption) (by decide))))
 replace kW := U8.get kW (fun hs => by rcases hs with (hs | hs) | hs <;> first | (first | exact Own.aS aK kW (by decide) _ hs rfl | (have := Own.ge aK hs; omega)) | (exact absurd hs (Ne.symm zh)) | (exact absurd hs (Ne.symm GU)))
 replace hF := hF.go U8 (fun i hi hs => by (rcases hs with (hs | hs) | hs <;> first | (subst hs; omega) | (have := (Own.ge aK hs).1; omega)))
 clear aK
 refine aN (PW aG hst (q := ⟨0, decide (3 / 2 % 2 = 1), decide (3 / 4 % 2 = 1), 0⟩)) (fun v9 w9 D9 => ?_)
 obtain ⟨st, why, tn, last, ins, N9, hst, hq1_43, hq0_43, U9⟩ := D9
 replace jk := jk.aF U9 vK
 replace jl := jl.aF U9 vM
 replace dD := dD.aF U9 zY
 replace aP := aP.aF U9 (Own.aS aP (by assumption) (by decide))
 replace dO := U9.aj dO aes
 replace ah := U9.aj ah aet
 replace kW := U9.aj kW (Ne.symm aew)
 replace ay := U9.aj ay (by exact dW (by assumption) (by assumption) (by decide))
 replace aV := U9.aj aV (by exact dW (by assumption) (by assumption) (by decide))
 replace aG := N9
 have hs1 := (hq1_43 (by decide)).1
 refine aB (xM aG) (fun w10 aY => ?_)
 replace aG := aY.af aG
 refine aB (qf aG) (fun nR bK => ?_)
 rw [if_pos hs1]
 obtain ⟨s0, hs0⟩ : ∃ s0, s0 = Gs.BD s 3 := ⟨_, rfl⟩
 replace aP := (aP.ai aY).ai bK
 replace ay := bK.af (aY.af ay)
 replace aV := bK.af (aY.af aV)
 dsimp only at ay aV aP hn42
 rw [← hs0] at ay aV aP hn42
 have hW0 : Gs.Pw s0.r s0.c n42 s0.cs s0.cur := by subst hs0; rw [hn42]; exact (hS.cln 3).len.2
 have hmk0 : Gs.xN s0.cs [] := by subst hs0; exact Gs.ahc s.cs
 replace hF := ((hF.go1 U9 Jt).go0 aY).go0 bK
 have gbp42 : w.heap.size ≤ bp42 := by have := hF.size; rcases hb42 with e | e <;> omega
 clear hs0
 refine ny (kR _ _ _ _ _) (fun h => h rfl) ?_
 refine aC ?_
 refine QQ (k := .i64) (fun b12 w12 e12 bT _ di => ?_)
 replace dO := bK.af (aY.af dO)
 have amM : gT ≠ b12 := by have := au dO; omega
 replace jk := (jk.ai aY).ai bK
 have alJ := jk.apart e12
 replace jl := (jl.ai aY).ai bK
 have alK := jl.apart e12
 replace dD := (dD.ai aY).ai bK
 have mO := dD.apart e12
 replace ah := bK.af (aY.af ah)
 have acf : b1 ≠ b12 := by have := au ah; omega
 replace aG := bK.af aG
 have lG : bk ≠ b12 := by have := au aG; omega
 replace kW := bK.af (aY.af kW)
 have amN : b7 ≠ b12 := by have := au kW; omega
 have nT : bs ≠ b12 := by have := au ay; omega
 have jI : bp42 ≠ b12 := by have := au aV; omega
 have jM := aP.apart e12
 have sJ : w.heap.size ≤ b12 := by have := hF.size; omega
 refine bM (fun g w' => ∃ (cs1 : List Gs.Cell) (cur1 : Int) (T1 : List Int) (m1 : List (Int × Value)) (st1 : Int) (why1 : Int) (tn1 : Int) (ins1 : Bool), (Gs.Pw s0.r s0.c n42 cs1 cur1) ∧ (Gs.xN cs1 T1) ∧ (Gs.He m1 T1) ∧ (1 ≤ st1 ∧ st1 ≤ 3) ∧ (Z.h w' bk #[Z.p bs, Z.i st1, Z.i why1, Z.i tn1, .bool ins1, Z.u last] 95) ∧ (Z.h w' bp42 #[Z.i s0.r, Z.i s0.c, .slice A42 n42 cp42, Z.i cur1] 91) ∧ (Own w.heap.size w' 37 5 (.slice A42 n42 cp42) (rows Gs.cv cs1)) ∧ (qg w' .i64 b12 m1) ∧ (Rd w' kA (rows Gs.kv ks)) ∧ (Z.h w' bs #[Z.i s0.r0, Z.i s0.c0, Z.i s0.r1, Z.i s0.c1, Z.i s0.wh, Z.p bp42] 89) ∧ (aA no w w')) (fun J1 hJ1 => ?_) (fun gJ1 jT hI => ?_)
 refine ak (gZ (by kernel_rfl) _ _ _) ?_
 refine ed (fun g w' => ∃ (k : Nat) (cs1 : List Gs.Cell) (cur1 : Int) (T1 : List Int) (m1 : List (Int × Value)) (st1 : Int) (why1 : Int) (tn1 : Int) (ins1 : Bool), (g 51 = Z.i (k : Int)) ∧ (k ≤ ks.length) ∧ (Gs.Pw s0.r s0.c n42 cs1 cur1) ∧ (Gs.xN cs1 T1) ∧ (Gs.He m1 T1) ∧ (1 ≤ st1 ∧ st1 ≤ 3) ∧ (Z.h w' bk #[Z.p bs, Z.i st1, Z.i why1, Z.i tn1, .bool ins1, Z.u last] 95) ∧ (Z.h w' bp42 #[Z.i s0.r, Z.i s0.c, .slice A42 n42 cp42, Z.i cur1] 91) ∧ (Own w.heap.size w' 37 5 (.slice A42 n42 cp42) (rows Gs.cv cs1)) ∧ (qg w' .i64 b12 m1) ∧ (Rd w' kA (rows Gs.kv ks)) ∧ (Z.h w' bs #[Z.i s0.r0, Z.i s0.c0, Z.i s0.r1, Z.i s0.c1, Z.i s0.wh, Z.p bp42] 89) ∧ (aA no w w')) (fun g w' => ks.length - (RowKit.intOf (g 51)).toNat) ?_ (fun g2 qK hI => ?_)
 replace dD := dD.ai di
 replace aP := aP.ai di
 replace aG := di.af aG
 replace ay := di.af ay
 replace aV := di.af aV
 replace hF := hF.go0 di
 exact ⟨0, s0.cs, s0.cur, [], [], _, _, _, _, (by rfl), Nat.zero_le _, hW0, hmk0, Gs.He.nil, hst, aG, aV, aP, bT, dD, ay, hF⟩
 replace dD := dD.ai di
 replace aP := aP.ai di
 replace aG := di.af aG
 replace ay := di.af ay
 replace aV := di.af aV
 replace hF := hF.go0 di
 obtain ⟨k, cs1, cur1, T1, m1, st1, why1, tn1, ins1, g51, hk, hW1, hmk1, hT1, hst1, aG, aV, aP, bT, dD, ay, hF⟩ := hI
 rw [g51]
 obtain ⟨hn1, hcw1, hcu1, hp1, hN1, hb1⟩ := id hW1
 refine az (lss _ _ _ _) (fun h13 => ?_) (fun h13 => ?_)
 refine aJ ?_
 refine bM (fun g w' => ∃ (cs2 : List Gs.Cell) (cur2 : Int) (T2 : List Int) (m2 : List (Int × Value)) (st2 : Int) (why2 : Int) (tn2 : Int) (ins2 : Bool), (Gs.Pw s0.r s0.c n42 cs2 cur2) ∧ (Gs.xN cs2 T2) ∧ (Gs.He m2 T2) ∧ (1 ≤ st2 ∧ st2 ≤ 3) ∧ (Z.h w' bk #[Z.p bs, Z.i st2, Z.i why2, Z.i tn2, .bool ins2, Z.u last] 95) ∧ (Z.h w' bp42 #[Z.i s0.r, Z.i s0.c, .slice A42 n42 cp42, Z.i cur2] 91) ∧ (Own w.heap.size w' 37 5 (.slice A42 n42 cp42) (rows Gs.cv cs2)) ∧ (qg w' .i64 b12 m2) ∧ (Rd w' kA (rows Gs.kv ks)) ∧ (Z.h w' bs #[Z.i s0.r0, Z.i s0.c0, Z.i s0.r1, Z.i s0.c1, Z.i s0.wh, Z.p bp42] 89) ∧ (aA no w w')) (fun J3 hJ3 => ?_) (fun gJ3 JO hI => ?_)
 refine sW Gs.afU (by kernel_rfl) (by kernel_rfl) dD (by rfl) (by omega) (by omega) (fun x14 akd => ?_)
 simp only [Int.toNat_natCast] at akd
 have hkx := hkw _ (List.mem_of_getElem? akd)
 refine Z.n ((Gs.kv (0, 0)).toArray) (fun b15 uG e15 gV _ bW => ?_)
 have rE : bk ≠ b15 := by have := au aG; omega
 have lF : bp42 ≠ b15 := by have := au aV; omega
 have lX := aP.apart e15
 have nP := bT.apart e15
 have qj := dD.apart e15
 have rF : bs ≠ b15 := by have := au ay; omega
 have wM : w.heap.size ≤ b15 := by have := hF.size; omega
 refine Z.t 2 ((Gs.kv x14).toArray) (by (simp [Value.cells, Value.oneCell', Gs.cv, Gs.fv, Gs.ie, Gs.pe, Gs.oe, Gs.cO, Gs.fe, Gs.fM, Gs.ce, Gs.dZ, Gs.re, Gs.de, Gs.ie, Gs.kv]; done)) gV (fun w16 gV _ bQ => ?_)
 refine Z.f 0 ?_
 refine Z.l gV ?_
 refine az (geq _ _ _ _) (fun h17 => ?_) (fun h17 => ?_)
 refine aX ?_
 refine Z.f 0 ?_
 refine aX ?_
 refine Z.l gV ?_
 refine aX ?_
 refine az (kR _ _ _ _ _) (fun h18 => ?_) (fun h18 => ?_)
 refine aT (aX ?_)
 refine Z.f 0 ?_
 refine aX ?_
 refine Z.l gV ?_
 refine aX ?_
 refine az (kR _ _ _ _ _) (fun h19 => ?_) (fun h19 => ?_)
 refine aT (aX ?_)
 refine Z.f 0 ?_
 refine aX ?_
 refine Z.l gV ?_
 refine aX ?_
 refine az (kR _ _ _ _ _) (fun h20 => ?_) (fun h20 => ?_)
 refine aT (bu (bu (bu (bu (aT (aJ ?_))))))
 refine hJ3 _ _ ?_
 replace aP := (aP.ai bW).aF bQ lX
 replace bT := (bT.ai bW).aF bQ nP
 replace dD := (dD.ai bW).aF bQ qj
 replace aG := bQ.aj (bW.af aG) rE
 replace aV := bQ.aj (bW.af aV) lF
 replace ay := bQ.aj (bW.af ay) rF
 replace hF := (hF.go0 bW).go1 bQ wM
 exact ⟨_, _, _, _, _, _, _, _, (by assumption), (by assumption), (by exact hT1), (by assumption), aG, aV, aP, bT, dD, ay, hF⟩
 refine aT (bD (bD ?_))
 replace aG := bQ.aj (bW.af aG) rE
 refine aB (xM aG) (fun Dc dV => ?_)
 refine bD ?_
 replace aG := dV.af aG
 refine aB (qf aG) (fun Ht gQ => ?_)
 obtain ⟨em, hem⟩ : ∃ em : Int, em = (if st1 = 1 then 0 else 40) := ⟨_, rfl⟩
 rw [← hem]
 have hem2 : (em = 0 → st1 = 1) ∧ (st1 = 1 → em = 0) := by subst hem; split <;> omega
 clear hem
 refine bD ?_
 refine az (kR _ _ _ _ _) (fun h23 => ?_) (fun h23 => ?_)
 refine aU (aJ ?_)
 refine hJ3 _ _ ?_
 replace aP := (((aP.ai bW).aF bQ lX).ai dV).ai gQ
 replace bT := (((bT.ai bW).aF bQ nP).ai dV).ai gQ
 replace dD := (((dD.ai bW).aF bQ qj).ai dV).ai gQ
 replace aV := gQ.af (dV.af (bQ.aj (bW.af aV) lF))
 replace ay := gQ.af (dV.af (bQ.aj (bW.af ay) rF))
 replace hF := (((hF.go0 bW).go1 bQ wM).go0 dV).go0 gQ
 replace gV := gQ.af (dV.af gV)
 replace aG := gQ.af aG
 exact ⟨_, _, _, _, _, _, _, _, (by assumption), (by assumption), (by exact hT1), (by assumption), aG, aV, aP, bT, dD, ay, hF⟩
 refine aU (aC ?_)
 replace ay := gQ.af (dV.af (bQ.aj (bW.af ay) rF))
 refine aB (jH ay) (fun Pm jA => ?_)
 replace ay := jA.af ay
 refine aB (jH ay) (fun GV fZ => ?_)
 replace aP := (((((aP.ai bW).aF bQ lX).ai dV).ai gQ).ai jA).ai fZ
 replace aV := fZ.af (jA.af (gQ.af (dV.af (bQ.aj (bW.af aV) lF))))
 refine aB (eF aV aP hn1) (fun LH iW => ?_)
 replace aP := aP.ai iW
 replace aV := iW.af aV
 refine aB (qw aV aP hn1 hN1 hb1 (i := cur1)) (fun Ij gm => ?_)
 replace gV := gm.af (iW.af (fZ.af (jA.af (gQ.af (dV.af gV)))))
 refine Z.b 2 ((Gs.kv x14).toArray) gV ?_
 replace aG := gm.af (iW.af (fZ.af (jA.af (gQ.af aG))))
 replace ay := gm.af (iW.af (fZ.af ay))
 replace aP := aP.ai gm
 replace aV := gm.af aV
 refine aN (BP aV aP hW1 aG ay (k := x14.1) hkx (by omega) hst1) (fun v28 V6 D28 => ?_)
 have fU := aP
 replace hF := (((((((hF.go0 bW).go1 bQ wM).go0 dV).go0 gQ).go0 jA).go0 fZ).go0 iW).go0 gm
 have qF28 := hF.size
 obtain ⟨e88, st2, why2, tn2, ins2, cs2, cur2, rfl, hst2, hW2, hpr88, aV, aP, aG, jG⟩ := D28
 replace bT := (((((((bT.ai bW).aF bQ nP).ai dV).ai gQ).ai jA).ai fZ).ai iW).ai gm
 replace bT := bT.dX jG (fun hs => by rcases hs with (hs | hs) | hs <;> first | (exact Own.Gn fU bT _ hs rfl) | (exact absurd hs (Ne.symm jI)) | (exact absurd hs (Ne.symm lG)))
 replace dD := (((((((dD.ai bW).aF bQ qj).ai dV).ai gQ).ai jA).ai fZ).ai iW).ai gm
 replace dD := dD.dX jG ((hlk.Ec aP).elim .inl fun h0 => (hlk.ne gbp42).elim .inl fun h1 => zY.elim .inl fun h2 => .inr fun k hk hs => by rcases hs with (hs | hs) | hs <;> first | exact h0 k hk hs | exact h1 k hk hs | exact h2 k hk hs)
 replace ay := jG.get ay (fun hs => by rcases hs with (hs | hs) | hs <;> first | (first | exact Own.aS fU ay (by decide) _ hs rfl | (have := Own.ge fU hs; omega)) | (exact absurd hs (by exact dW (by assumption) (by assumption) (by decide))))
 replace gV := jG.get gV (fun hs => by rcases hs with (hs | hs) | hs <;> first | (first | exact Own.aS fU gV (by decide) _ hs rfl | (have := Own.ge fU hs; omega)) | (exact absurd hs (Ne.symm lF)) | (exact absurd hs (Ne.symm rE)))
 replace hF := hF.go jG (fun i hi hs => by (rcases hs with (hs | hs) | hs <;> first | (subst hs; omega) | (have := (Own.ge fU hs).1; omega)))
 clear fU
 refine Z.e ?_
 refine Z.e ?_
 refine Z.f 0 ?_
 refine Z.l gV ?_
 refine az (cZ _ _ _ _ _) (fun h29 => ?_) (fun h29 => ?_)
 refine bu (bu (bu (aT (bu (bu (bu (aT ?_)))))))
 refine az (cZ _ _ _ _ _) (fun h30 => ?_) (fun h30 => ?_)
 refine aX (aT (aX (aX ?_)))
 refine az (geq _ _ _ _) (fun h31 => ?_) (fun h31 => ?_)
 refine aT (aJ ?_)
 refine kG (kt := 3) (e := 4) (by kernel_rfl) bT (fun w32 bT _ lU => ?_)
 refine hJ3 _ _ ?_
 replace dD := dD.aF lU mO
 replace aP := aP.aF lU jM
 replace ay := lU.aj ay nT
 replace aG := lU.aj aG lG
 replace aV := lU.aj aV jI
 replace hF := hF.go1 lU sJ
 exact ⟨_, _, _, _, _, _, _, _, (by assumption), (by (have h9 := hmk1.iU hpr88 (by omega) (hem2.1 (by omega)); (rw [if_pos ⟨by omega, by unfold Gs.iH; omega, by omega⟩] at h9; exact h9))), (by exact hT1.set _), (by assumption), aG, aV, aP, bT, dD, ay, hF⟩
 refine aT (aC ?_)
 refine hJ3 _ _ ?_
 exact ⟨_, _, _, _, _, _, _, _, (by assumption), (by (have h9 := hmk1.iU hpr88 (by omega) (hem2.1 (by omega)); (rw [if_pos ⟨by omega, by unfold Gs.iH; omega, by omega⟩] at h9; exact h9))), (by (exfalso; omega)), (by assumption), aG, aV, aP, bT, dD, ay, hF⟩
 refine aQ (aU (aQ (aQ (aU (aC ?_)))))
 refine hJ3 _ _ ?_
 exact ⟨_, _, _, _, _, _, _, _, (by assumption), (by (have h9 := hmk1.iU hpr88 (by omega) (hem2.1 (by omega)); (rw [if_pos ⟨by omega, by unfold Gs.iH; omega, by omega⟩] at h9; exact h9))), (by (exfalso; omega)), (by assumption), aG, aV, aP, bT, dD, ay, hF⟩
 refine bD ?_
 refine Z.f 0 ?_
 refine bD ?_
 refine Z.l gV ?_
 refine bD ?_
 refine az (cZ _ _ _ _ _) (fun h33 => ?_) (fun h33 => ?_)
 refine aU (bu (bu (bu (aT ?_))))
 refine az (cZ _ _ _ _ _) (fun h34 => ?_) (fun h34 => ?_)
 refine aX (aT (aX (aX ?_)))
 refine az (geq _ _ _ _) (fun h35 => ?_) (fun h35 => ?_)
 refine aT (aJ ?_)
 refine kG (kt := 3) (e := 4) (by kernel_rfl) bT (fun w36 bT _ oh => ?_)
 refine hJ3 _ _ ?_
 replace dD := dD.aF oh mO
 replace aP := aP.aF oh jM
 replace ay := oh.aj ay nT
 replace aG := oh.aj aG lG
 replace aV := oh.aj aV jI
 replace hF := hF.go1 oh sJ
 exact ⟨_, _, _, _, _, _, _, _, (by assumption), (by (have h9 := hmk1.iU hpr88 (by omega) (hem2.1 (by omega)); (rw [if_pos ⟨by omega, by unfold Gs.iH; omega, by omega⟩] at h9; exact h9))), (by exact hT1.set _), (by assumption), aG, aV, aP, bT, dD, ay, hF⟩
 refine aT (aC ?_)
 refine hJ3 _ _ ?_
 exact ⟨_, _, _, _, _, _, _, _, (by assumption), (by (have h9 := hmk1.iU hpr88 (by omega) (hem2.1 (by omega)); (rw [if_pos ⟨by omega, by unfold Gs.iH; omega, by omega⟩] at h9; exact h9))), (by (exfalso; omega)), (by assumption), aG, aV, aP, bT, dD, ay, hF⟩
 refine aQ (aU (aQ (aQ (aU (aC ?_)))))
 refine hJ3 _ _ ?_
 exact ⟨_, _, _, _, _, _, _, _, (by assumption), (by (have h9 := hmk1.iU hpr88 (by omega) (hem2.1 (by omega)); (rw [if_pos ⟨by omega, by unfold Gs.iH; omega, by omega⟩] at h9; exact h9))), (by (exfalso; omega)), (by assumption), aG, aV, aP, bT, dD, ay, hF⟩
 refine aU (bD ?_)
 refine Z.f 0 ?_
 refine bD ?_
 refine Z.l gV ?_
 refine bD ?_
 refine az (geq _ _ _ _) (fun h37 => ?_) (fun h37 => ?_)
 refine aU ?_
 refine az (cZ _ _ _ _ _) (fun h38 => ?_) (fun h38 => ?_)
 refine aX (aT (aX (aX ?_)))
 refine az (geq _ _ _ _) (fun h39 => ?_) (fun h39 => ?_)
 refine aT (aJ ?_)
 refine kG (kt := 3) (e := 4) (by kernel_rfl) bT (fun w40 bT _ mW => ?_)
 refine hJ3 _ _ ?_
 replace dD := dD.aF mW mO
 replace aP := aP.aF mW jM
 replace ay := mW.aj ay nT
 replace aG := mW.aj aG lG
 replace aV := mW.aj aV jI
 replace hF := hF.go1 mW sJ
 exact ⟨_, _, _, _, _, _, _, _, (by assumption), (by (have h9 := hmk1.iU hpr88 (by omega) (hem2.1 (by omega)); (rw [if_pos ⟨by omega, by unfold Gs.iH; omega, by omega⟩] at h9; exact h9))), (by exact hT1.set _), (by assumption), aG, aV, aP, bT, dD, ay, hF⟩
 refine aT (aC ?_)
 refine hJ3 _ _ ?_
 exact ⟨_, _, _, _, _, _, _, _, (by assumption), (by (have h9 := hmk1.iU hpr88 (by omega) (hem2.1 (by omega)); (rw [if_neg (fun h => by unfold Gs.iH at h; omega)] at h9; exact h9))), (by exact hT1), (by assumption), aG, aV, aP, bT, dD, ay, hF⟩
 refine aQ (aU (aQ (aQ (aU (aC ?_)))))
 refine hJ3 _ _ ?_
 exact ⟨_, _, _, _, _, _, _, _, (by assumption), (by (have h9 := hmk1.iU hpr88 (by omega) (hem2.1 (by omega)); (rw [if_neg (fun h => by unfold Gs.iH at h; omega)] at h9; exact h9))), (by exact hT1), (by assumption), aG, aV, aP, bT, dD, ay, hF⟩
 refine aU ?_
 refine az (cZ _ _ _ _ _) (fun h41 => ?_) (fun h41 => ?_)
 refine aX (aT (aQ (aQ (aU (aC ?_)))))
 refine hJ3 _ _ ?_
 exact ⟨_, _, _, _, _, _, _, _, (by assumption), (by (have h9 := hmk1.iU hpr88 (by omega) (hem2.1 (by omega)); (rw [if_pos ⟨by omega, by unfold Gs.iH; omega, by omega⟩] at h9; exact h9))), (by (exfalso; omega)), (by assumption), aG, aV, aP, bT, dD, ay, hF⟩
 refine aQ (aU (aQ (aQ (aU (aC ?_)))))
 refine hJ3 _ _ ?_
 exact ⟨_, _, _, _, _, _, _, _, (by assumption), (by (have h9 := hmk1.iU hpr88 (by omega) (hem2.1 (by omega)); (rw [if_pos ⟨by omega, by unfold Gs.iH; omega, by omega⟩] at h9; exact h9))), (by (exfalso; omega)), (by assumption), aG, aV, aP, bT, dD, ay, hF⟩
 refine aT (aQ (aQ (aQ (aU (bD (bD ?_))))))
 replace aG := bQ.aj (bW.af aG) rE
 refine aB (xM aG) (fun w42 qM => ?_)
 refine bD ?_
 replace aG := qM.af aG
 refine aB (qf aG) (fun w43 oz => ?_)
 obtain ⟨em, hem⟩ : ∃ em : Int, em = (if st1 = 1 then 0 else 40) := ⟨_, rfl⟩
 rw [← hem]
 have hem2 : (em = 0 → st1 = 1) ∧ (st1 = 1 → em = 0) := by subst hem; split <;> omega
 clear hem
 refine bD ?_
 refine az (kR _ _ _ _ _) (fun h44 => ?_) (fun h44 => ?_)
 refine aU (aJ ?_)
 refine hJ3 _ _ ?_
 replace aP := (((aP.ai bW).aF bQ lX).ai qM).ai oz
 replace bT := (((bT.ai bW).aF bQ nP).ai qM).ai oz
 replace dD := (((dD.ai bW).aF bQ qj).ai qM).ai oz
 replace aV := oz.af (qM.af (bQ.aj (bW.af aV) lF))
 replace ay := oz.af (qM.af (bQ.aj (bW.af ay) rF))
 replace hF := (((hF.go0 bW).go1 bQ wM).go0 qM).go0 oz
 replace gV := oz.af (qM.af gV)
 replace aG := oz.af aG
 exact ⟨_, _, _, _, _, _, _, _, (by assumption), (by assumption), (by exact hT1), (by assumption), aG, aV, aP, bT, dD, ay, hF⟩
 refine aU (aC ?_)
 replace ay := oz.af (qM.af (bQ.aj (bW.af ay) rF))
 refine aB (jH ay) (fun w45 zV => ?_)
 replace ay := zV.af ay
 refine aB (jH ay) (fun w46 G5 => ?_)
 replace aP := (((((aP.ai bW).aF bQ lX).ai qM).ai oz).ai zV).ai G5
 replace aV := G5.af (zV.af (oz.af (qM.af (bQ.aj (bW.af aV) lF))))
 refine aB (eF aV aP hn1) (fun w47 wC => ?_)
 replace aP := aP.ai wC
 replace aV := wC.af aV
 refine aB (qw aV aP hn1 hN1 hb1 (i := cur1)) (fun w48 Ak => ?_)
 replace gV := Ak.af (wC.af (G5.af (zV.af (oz.af (qM.af gV)))))
 refine Z.b 2 ((Gs.kv x14).toArray) gV ?_
 replace aG := Ak.af (wC.af (G5.af (zV.af (oz.af aG))))
 replace ay := Ak.af (wC.af (G5.af ay))
 replace aP := aP.ai Ak
 replace aV := Ak.af aV
 refine aN (BP aV aP hW1 aG ay (k := x14.1) hkx (by omega) hst1) (fun v49 w49 D49 => ?_)
 have fU := aP
 replace hF := (((((((hF.go0 bW).go1 bQ wM).go0 qM).go0 oz).go0 zV).go0 G5).go0 wC).go0 Ak
 have qF49 := hF.size
 obtain ⟨e88, st2, why2, tn2, ins2, cs2, cur2, rfl, hst2, hW2, hpr88, aV, aP, aG, Am⟩ := D49
 replace bT := (((((((bT.ai bW).aF bQ nP).ai qM).ai oz).ai zV).ai G5).ai wC).ai Ak
 replace bT := bT.dX Am (fun hs => by rcases hs with (hs | hs) | hs <;> first | (exact Own.Gn fU bT _ hs rfl) | (exact absurd hs (Ne.symm jI)) | (exact absurd hs (Ne.symm lG)))
 replace dD := (((((((dD.ai bW).aF bQ qj).ai qM).ai oz).ai zV).ai G5).ai wC).ai Ak
 replace dD := dD.dX Am ((hlk.Ec aP).elim .inl fun h0 => (hlk.ne gbp42).elim .inl fun h1 => zY.elim .inl fun h2 => .inr fun k hk hs => by rcases hs with (hs | hs) | hs <;> first | exact h0 k hk hs | exact h1 k hk hs | exact h2 k hk hs)
 replace ay := Am.get ay (fun hs => by rcases hs with (hs | hs) | hs <;> first | (first | exact Own.aS fU ay (by decide) _ hs rfl | (have := Own.ge fU hs; omega)) | (exact absurd hs (by exact dW (by assumption) (by assumption) (by decide))))
 replace gV := Am.get gV (fun hs => by rcases hs with (hs | hs) | hs <;> first | (first | exact Own.aS fU gV (by decide) _ hs rfl | (have := Own.ge fU hs; omega)) | (exact absurd hs (Ne.symm lF)) | (exact absurd hs (Ne.symm rE)))
 replace hF := hF.go Am (fun i hi hs => by (rcases hs with (hs | hs) | hs <;> first | (subst hs; omega) | (have := (Own.ge fU hs).1; omega)))
 clear fU
 refine Z.e ?_
 refine Z.e ?_
 refine Z.f 0 ?_
 refine Z.l gV ?_
 refine az (cZ _ _ _ _ _) (fun h50 => ?_) (fun h50 => ?_)
 refine bu (bu (bu (aT (bu (bu (bu (aT ?_)))))))
 refine az (cZ _ _ _ _ _) (fun h51 => ?_) (fun h51 => ?_)
 refine aX (aT (aX (aX ?_)))
 refine az (geq _ _ _ _) (fun h52 => ?_) (fun h52 => ?_)
 refine aT (aJ ?_)
 refine kG (kt := 3) (e := 4) (by kernel_rfl) bT (fun w53 bT _ LJ => ?_)
 refine hJ3 _ _ ?_
 replace dD := dD.aF LJ mO
 replace aP := aP.aF LJ jM
 replace ay := LJ.aj ay nT
 replace aG := LJ.aj aG lG
 replace aV := LJ.aj aV jI
 replace hF := hF.go1 LJ sJ
 exact ⟨_, _, _, _, _, _, _, _, (by assumption), (by (have h9 := hmk1.iU hpr88 (by omega) (hem2.1 (by omega)); (rw [if_pos ⟨by omega, by unfold Gs.iH; omega, by omega⟩] at h9; exact h9))), (by exact hT1.set _), (by assumption), aG, aV, aP, bT, dD, ay, hF⟩
 refine aT (aC ?_)
 refine hJ3 _ _ ?_
 exact ⟨_, _, _, _, _, _, _, _, (by assumption), (by (have h9 := hmk1.iU hpr88 (by omega) (hem2.1 (by omega)); (rw [if_pos ⟨by omega, by unfold Gs.iH; omega, by omega⟩] at h9; exact h9))), (by (exfalso; omega)), (by assumption), aG, aV, aP, bT, dD, ay, hF⟩
 refine aQ (aU (aQ (aQ (aU (aC ?_)))))
 refine hJ3 _ _ ?_
 exact ⟨_, _, _, _, _, _, _, _, (by assumption), (by (have h9 := hmk1.iU hpr88 (by omega) (hem2.1 (by omega)); (rw [if_pos ⟨by omega, by unfold Gs.iH; omega, by omega⟩] at h9; exact h9))), (by (exfalso; omega)), (by assumption), aG, aV, aP, bT, dD, ay, hF⟩
 refine bD ?_
 refine Z.f 0 ?_
 refine bD ?_
 refine Z.l gV ?_
 refine bD ?_
 refine az (cZ _ _ _ _ _) (fun h54 => ?_) (fun h54 => ?_)
 refine aU (bu (bu (bu (aT ?_))))
 refine az (cZ _ _ _ _ _) (fun h55 => ?_) (fun h55 => ?_)
 refine aX (aT (aX (aX ?_)))
 refine az (geq _ _ _ _) (fun h56 => ?_) (fun h56 => ?_)
 refine aT (aJ ?_)
 refine kG (kt := 3) (e := 4) (by kernel_rfl) bT (fun w57 bT _ LK => ?_)
 refine hJ3 _ _ ?_
 replace dD := dD.aF LK mO
 replace aP := aP.aF LK jM
 replace ay := LK.aj ay nT
 replace aG := LK.aj aG lG
 replace aV := LK.aj aV jI
 replace hF := hF.go1 LK sJ
 exact ⟨_, _, _, _, _, _, _, _, (by assumption), (by (have h9 := hmk1.iU hpr88 (by omega) (hem2.1 (by omega)); (rw [if_pos ⟨by omega, by unfold Gs.iH; omega, by omega⟩] at h9; exact h9))), (by exact hT1.set _), (by assumption), aG, aV, aP, bT, dD, ay, hF⟩
 refine aT (aC ?_)
 refine hJ3 _ _ ?_
 exact ⟨_, _, _, _, _, _, _, _, (by assumption), (by (have h9 := hmk1.iU hpr88 (by omega) (hem2.1 (by omega)); (rw [if_pos ⟨by omega, by unfold Gs.iH; omega, by omega⟩] at h9; exact h9))), (by (exfalso; omega)), (by assumption), aG, aV, aP, bT, dD, ay, hF⟩
 refine aQ (aU (aQ (aQ (aU (aC ?_)))))
 refine hJ3 _ _ ?_
 exact ⟨_, _, _, _, _, _, _, _, (by assumption), (by (have h9 := hmk1.iU hpr88 (by omega) (hem2.1 (by omega)); (rw [if_pos ⟨by omega, by unfold Gs.iH; omega, by omega⟩] at h9; exact h9))), (by (exfalso; omega)), (by assumption), aG, aV, aP, bT, dD, ay, hF⟩
 refine aU (bD ?_)
 refine Z.f 0 ?_
 refine bD ?_
 refine Z.l gV ?_
 refine bD ?_
 refine az (geq _ _ _ _) (fun h58 => ?_) (fun h58 => ?_)
 refine aU ?_
 refine az (cZ _ _ _ _ _) (fun h59 => ?_) (fun h59 => ?_)
 refine aX (aT (aX (aX ?_)))
 refine az (geq _ _ _ _) (fun h60 => ?_) (fun h60 => ?_)
 refine aT (aJ ?_)
 refine kG (kt := 3) (e := 4) (by kernel_rfl) bT (fun w61 bT _ Xp => ?_)
 refine hJ3 _ _ ?_
 replace dD := dD.aF Xp mO
 replace aP := aP.aF Xp jM
 replace ay := Xp.aj ay nT
 replace aG := Xp.aj aG lG
 replace aV := Xp.aj aV jI
 replace hF := hF.go1 Xp sJ
 exact ⟨_, _, _, _, _, _, _, _, (by assumption), (by (have h9 := hmk1.iU hpr88 (by omega) (hem2.1 (by omega)); (rw [if_pos ⟨by omega, by unfold Gs.iH; omega, by omega⟩] at h9; exact h9))), (by exact hT1.set _), (by assumption), aG, aV, aP, bT, dD, ay, hF⟩
 refine aT (aC ?_)
 refine hJ3 _ _ ?_
 exact ⟨_, _, _, _, _, _, _, _, (by assumption), (by (have h9 := hmk1.iU hpr88 (by omega) (hem2.1 (by omega)); (rw [if_neg (fun h => by unfold Gs.iH at h; omega)] at h9; exact h9))), (by exact hT1), (by assumption), aG, aV, aP, bT, dD, ay, hF⟩
 refine aQ (aU (aQ (aQ (aU (aC ?_)))))
 refine hJ3 _ _ ?_
 exact ⟨_, _, _, _, _, _, _, _, (by assumption), (by (have h9 := hmk1.iU hpr88 (by omega) (hem2.1 (by omega)); (rw [if_neg (fun h => by unfold Gs.iH at h; omega)] at h9; exact h9))), (by exact hT1), (by assumption), aG, aV, aP, bT, dD, ay, hF⟩
 refine aU ?_
 refine az (cZ _ _ _ _ _) (fun h62 => ?_) (fun h62 => ?_)
 refine aX (aT (aQ (aQ (aU (aC ?_)))))
 refine hJ3 _ _ ?_
 exact ⟨_, _, _, _, _, _, _, _, (by assumption), (by (have h9 := hmk1.iU hpr88 (by omega) (hem2.1 (by omega)); (rw [if_pos ⟨by omega, by unfold Gs.iH; omega, by omega⟩] at h9; exact h9))), (by (exfalso; omega)), (by assumption), aG, aV, aP, bT, dD, ay, hF⟩
 refine aQ (aU (aQ (aQ (aU (aC ?_)))))
 refine hJ3 _ _ ?_
 exact ⟨_, _, _, _, _, _, _, _, (by assumption), (by (have h9 := hmk1.iU hpr88 (by omega) (hem2.1 (by omega)); (rw [if_pos ⟨by omega, by unfold Gs.iH; omega, by omega⟩] at h9; exact h9))), (by (exfalso; omega)), (by assumption), aG, aV, aP, bT, dD, ay, hF⟩
 refine aT (aQ (aQ (aQ (aU (aQ (aQ (aQ (aU (bD (bD ?_))))))))))
 replace aG := bQ.aj (bW.af aG) rE
 refine aB (xM aG) (fun w63 yI => ?_)
 refine bD ?_
 replace aG := yI.af aG
 refine aB (qf aG) (fun w64 xU => ?_)
 obtain ⟨em, hem⟩ : ∃ em : Int, em = (if st1 = 1 then 0 else 40) := ⟨_, rfl⟩
 rw [← hem]
 have hem2 : (em = 0 → st1 = 1) ∧ (st1 = 1 → em = 0) := by subst hem; split <;> omega
 clear hem
 refine bD ?_
 refine az (kR _ _ _ _ _) (fun h65 => ?_) (fun h65 => ?_)
 refine aU (aJ ?_)
 refine hJ3 _ _ ?_
 replace aP := (((aP.ai bW).aF bQ lX).ai yI).ai xU
 replace bT := (((bT.ai bW).aF bQ nP).ai yI).ai xU
 replace dD := (((dD.ai bW).aF bQ qj).ai yI).ai xU
 replace aV := xU.af (yI.af (bQ.aj (bW.af aV) lF))
 replace ay := xU.af (yI.af (bQ.aj (bW.af ay) rF))
 replace hF := (((hF.go0 bW).go1 bQ wM).go0 yI).go0 xU
 replace gV := xU.af (yI.af gV)
 replace aG := xU.af aG
 exact ⟨_, _, _, _, _, _, _, _, (by assumption), (by assumption), (by exact hT1), (by assumption), aG, aV, aP, bT, dD, ay, hF⟩
 refine aU (aC ?_)
 replace ay := xU.af (yI.af (bQ.aj (bW.af ay) rF))
 refine aB (jH ay) (fun w66 Qy => ?_)
 replace ay := Qy.af ay
 refine aB (jH ay) (fun w67 Hu => ?_)
 replace aP := (((((aP.ai bW).aF bQ lX).ai yI).ai xU).ai Qy).ai Hu
 replace aV := Hu.af (Qy.af (xU.af (yI.af (bQ.aj (bW.af aV) lF))))
 refine aB (eF aV aP hn1) (fun w68 Hw => ?_)
 replace aP := aP.ai Hw
 replace aV := Hw.af aV
 refine aB (qw aV aP hn1 hN1 hb1 (i := cur1)) (fun w69 Hy => ?_)
 replace gV := Hy.af (Hw.af (Hu.af (Qy.af (xU.af (yI.af gV)))))
 refine Z.b 2 ((Gs.kv x14).toArray) gV ?_
 replace aG := Hy.af (Hw.af (Hu.af (Qy.af (xU.af aG))))
 replace ay := Hy.af (Hw.af (Hu.af ay))
 replace aP := aP.ai Hy
 replace aV := Hy.af aV
 refine aN (BP aV aP hW1 aG ay (k := x14.1) hkx (by omega) hst1) (fun v70 w70 D70 => ?_)
 have fU := aP
 replace hF := (((((((hF.go0 bW).go1 bQ wM).go0 yI).go0 xU).go0 Qy).go0 Hu).go0 Hw).go0 Hy
 have qF70 := hF.size
 obtain ⟨e88, st2, why2, tn2, ins2, cs2, cur2, rfl, hst2, hW2, hpr88, aV, aP, aG, U70⟩ := D70
 replace bT := (((((((bT.ai bW).aF bQ nP).ai yI).ai xU).ai Qy).ai Hu).ai Hw).ai Hy
 replace bT := bT.dX U70 (fun hs => by rcases hs with (hs | hs) | hs <;> first | (exact Own.Gn fU bT _ hs rfl) | (exact absurd hs (Ne.symm jI)) | (exact absurd hs (Ne.symm lG)))
 replace dD := (((((((dD.ai bW).aF bQ qj).ai yI).ai xU).ai Qy).ai Hu).ai Hw).ai Hy
 replace dD := dD.dX U70 ((hlk.Ec aP).elim .inl fun h0 => (hlk.ne gbp42).elim .inl fun h1 => zY.elim .inl fun h2 => .inr fun k hk hs => by rcases hs with (hs | hs) | hs <;> first | exact h0 k hk hs | exact h1 k hk hs | exact h2 k hk hs)
 replace ay := U70.get ay (fun hs => by rcases hs with (hs | hs) | hs <;> first | (first | exact Own.aS fU ay (by decide) _ hs rfl | (have := Own.ge fU hs; omega)) | (exact absurd hs (by exact dW (by assumption) (by assumption) (by decide))))
 replace gV := U70.get gV (fun hs => by rcases hs with (hs | hs) | hs <;> first | (first | exact Own.aS fU gV (by decide) _ hs rfl | (have := Own.ge fU hs; omega)) | (exact absurd hs (Ne.symm lF)) | (exact absurd hs (Ne.symm rE)))
 replace hF := hF.go U70 (fun i hi hs => by (rcases hs with (hs | hs) | hs <;> first | (subst hs; omega) | (have := (Own.ge fU hs).1; omega)))
 clear fU
 refine Z.e ?_
 refine Z.e ?_
 refine Z.f 0 ?_
 refine Z.l gV ?_
 refine az (cZ _ _ _ _ _) (fun h71 => ?_) (fun h71 => ?_)
 refine bu (bu (bu (aT (bu (bu (bu (aT ?_)))))))
 refine az (cZ _ _ _ _ _) (fun h72 => ?_) (fun h72 => ?_)
 refine aX (aT (aX (aX ?_)))
 refine az (geq _ _ _ _) (fun h73 => ?_) (fun h73 => ?_)
 refine aT (aJ ?_)
 refine kG (kt := 3) (e := 4) (by kernel_rfl) bT (fun w74 bT _ Xq => ?_)
 refine hJ3 _ _ ?_
 replace dD := dD.aF Xq mO
 replace aP := aP.aF Xq jM
 replace ay := Xq.aj ay nT
 replace aG := Xq.aj aG lG
 replace aV := Xq.aj aV jI
 replace hF := hF.go1 Xq sJ
 exact ⟨_, _, _, _, _, _, _, _, (by assumption), (by (have h9 := hmk1.iU hpr88 (by omega) (hem2.1 (by omega)); (rw [if_pos ⟨by omega, by unfold Gs.iH; omega, by omega⟩] at h9; exact h9))), (by exact hT1.set _), (by assumption), aG, aV, aP, bT, dD, ay, hF⟩
 refine aT (aC ?_)
 refine hJ3 _ _ ?_
 exact ⟨_, _, _, _, _, _, _, _, (by assumption), (by (have h9 := hmk1.iU hpr88 (by omega) (hem2.1 (by omega)); (rw [if_pos ⟨by omega, by unfold Gs.iH; omega, by omega⟩] at h9; exact h9))), (by (exfalso; omega)), (by assumption), aG, aV, aP, bT, dD, ay, hF⟩
 refine aQ (aU (aQ (aQ (aU (aC ?_)))))
 refine hJ3 _ _ ?_
 exact ⟨_, _, _, _, _, _, _, _, (by assumption), (by (have h9 := hmk1.iU hpr88 (by omega) (hem2.1 (by omega)); (rw [if_pos ⟨by omega, by unfold Gs.iH; omega, by omega⟩] at h9; exact h9))), (by (exfalso; omega)), (by assumption), aG, aV, aP, bT, dD, ay, hF⟩
 refine bD ?_
 refine Z.f 0 ?_
 refine bD ?_
 refine Z.l gV ?_
 refine bD ?_
 refine az (cZ _ _ _ _ _) (fun h75 => ?_) (fun h75 => ?_)
 refine aU (bu (bu (bu (aT ?_))))
 refine az (cZ _ _ _ _ _) (fun h76 => ?_) (fun h76 => ?_)
 refine aX (aT (aX (aX ?_)))
 refine az (geq _ _ _ _) (fun h77 => ?_) (fun h77 => ?_)
 refine aT (aJ ?_)
 refine kG (kt := 3) (e := 4) (by kernel_rfl) bT (fun w78 bT _ Xr => ?_)
 refine hJ3 _ _ ?_
 replace dD := dD.aF Xr mO
 replace aP := aP.aF Xr jM
 replace ay := Xr.aj ay nT
 replace aG := Xr.aj aG lG
 replace aV := Xr.aj aV jI
 replace hF := hF.go1 Xr sJ
 exact ⟨_, _, _, _, _, _, _, _, (by assumption), (by (have h9 := hmk1.iU hpr88 (by omega) (hem2.1 (by omega)); (rw [if_pos ⟨by omega, by unfold Gs.iH; omega, by omega⟩] at h9; exact h9))), (by exact hT1.set _), (by assumption), aG, aV, aP, bT, dD, ay, hF⟩
 refine aT (aC ?_)
 refine hJ3 _ _ ?_
 exact ⟨_, _, _, _, _, _, _, _, (by assumption), (by (have h9 := hmk1.iU hpr88 (by omega) (hem2.1 (by omega)); (rw [if_pos ⟨by omega, by unfold Gs.iH; omega, by omega⟩] at h9; exact h9))), (by (exfalso; omega)), (by assumption), aG, aV, aP, bT, dD, ay, hF⟩
 refine aQ (aU (aQ (aQ (aU (aC ?_)))))
 refine hJ3 _ _ ?_
 exact ⟨_, _, _, _, _, _, _, _, (by assumption), (by (have h9 := hmk1.iU hpr88 (by omega) (hem2.1 (by omega)); (rw [if_pos ⟨by omega, by unfold Gs.iH; omega, by omega⟩] at h9; exact h9))), (by (exfalso; omega)), (by assumption), aG, aV, aP, bT, dD, ay, hF⟩
 refine aU (bD ?_)
 refine Z.f 0 ?_
 refine bD ?_
 refine Z.l gV ?_
 refine bD ?_
 refine az (geq _ _ _ _) (fun h79 => ?_) (fun h79 => ?_)
 refine aU ?_
 refine az (cZ _ _ _ _ _) (fun h80 => ?_) (fun h80 => ?_)
 refine aX (aT (aX (aX ?_)))
 refine az (geq _ _ _ _) (fun h81 => ?_) (fun h81 => ?_)
 refine aT (aJ ?_)
 refine kG (kt := 3) (e := 4) (by kernel_rfl) bT (fun w82 bT _ Xt => ?_)
 refine hJ3 _ _ ?_
 replace dD := dD.aF Xt mO
 replace aP := aP.aF Xt jM
 replace ay := Xt.aj ay nT
 replace aG := Xt.aj aG lG
 replace aV := Xt.aj aV jI
 replace hF := hF.go1 Xt sJ
 exact ⟨_, _, _, _, _, _, _, _, (by assumption), (by (have h9 := hmk1.iU hpr88 (by omega) (hem2.1 (by omega)); (rw [if_pos ⟨by omega, by unfold Gs.iH; omega, by omega⟩] at h9; exact h9))), (by exact hT1.set _), (by assumption), aG, aV, aP, bT, dD, ay, hF⟩
 refine aT (aC ?_)
 refine hJ3 _ _ ?_
 exact ⟨_, _, _, _, _, _, _, _, (by assumption), (by (have h9 := hmk1.iU hpr88 (by omega) (hem2.1 (by omega)); (rw [if_neg (fun h => by unfold Gs.iH at h; omega)] at h9; exact h9))), (by exact hT1), (by assumption), aG, aV, aP, bT, dD, ay, hF⟩
 refine aQ (aU (aQ (aQ (aU (aC ?_)))))
 refine hJ3 _ _ ?_
 exact ⟨_, _, _, _, _, _, _, _, (by assumption), (by (have h9 := hmk1.iU hpr88 (by omega) (hem2.1 (by omega)); (rw [if_neg (fun h => by unfold Gs.iH at h; omega)] at h9; exact h9))), (by exact hT1), (by assumption), aG, aV, aP, bT, dD, ay, hF⟩
 refine aU ?_
 refine az (cZ _ _ _ _ _) (fun h83 => ?_) (fun h83 => ?_)
 refine aX (aT (aQ (aQ (aU (aC ?_)))))
 refine hJ3 _ _ ?_
 exact ⟨_, _, _, _, _, _, _, _, (by assumption), (by (have h9 := hmk1.iU hpr88 (by omega) (hem2.1 (by omega)); (rw [if_pos ⟨by omega, by unfold Gs.iH; omega, by omega⟩] at h9; exact h9))), (by (exfalso; omega)), (by assumption), aG, aV, aP, bT, dD, ay, hF⟩
 refine aQ (aU (aQ (aQ (aU (aC ?_)))))
 refine hJ3 _ _ ?_
 exact ⟨_, _, _, _, _, _, _, _, (by assumption), (by (have h9 := hmk1.iU hpr88 (by omega) (hem2.1 (by omega)); (rw [if_pos ⟨by omega, by unfold Gs.iH; omega, by omega⟩] at h9; exact h9))), (by (exfalso; omega)), (by assumption), aG, aV, aP, bT, dD, ay, hF⟩
 refine aQ (aQ (aQ (aU (aQ (aQ (aQ (aU (aQ (aQ (aQ (aU (bD (bD ?_)))))))))))))
 replace aG := bQ.aj (bW.af aG) rE
 refine aB (xM aG) (fun w84 CZ => ?_)
 refine bD ?_
 replace aG := CZ.af aG
 refine aB (qf aG) (fun w85 xW => ?_)
 obtain ⟨em, hem⟩ : ∃ em : Int, em = (if st1 = 1 then 0 else 40) := ⟨_, rfl⟩
 rw [← hem]
 have hem2 : (em = 0 → st1 = 1) ∧ (st1 = 1 → em = 0) := by subst hem; split <;> omega
 clear hem
 refine bD ?_
 refine az (kR _ _ _ _ _) (fun h86 => ?_) (fun h86 => ?_)
 refine aU (aJ ?_)
 refine hJ3 _ _ ?_
 replace aP := (((aP.ai bW).aF bQ lX).ai CZ).ai xW
 replace bT := (((bT.ai bW).aF bQ nP).ai CZ).ai xW
 replace dD := (((dD.ai bW).aF bQ qj).ai CZ).ai xW
 replace aV := xW.af (CZ.af (bQ.aj (bW.af aV) lF))
 replace ay := xW.af (CZ.af (bQ.aj (bW.af ay) rF))
 replace hF := (((hF.go0 bW).go1 bQ wM).go0 CZ).go0 xW
 replace gV := xW.af (CZ.af gV)
 replace aG := xW.af aG
 exact ⟨_, _, _, _, _, _, _, _, (by assumption), (by assumption), (by exact hT1), (by assumption), aG, aV, aP, bT, dD, ay, hF⟩
 refine aU (aC ?_)
 replace ay := xW.af (CZ.af (bQ.aj (bW.af ay) rF))
 refine aB (jH ay) (fun w87 HY => ?_)
 replace ay := HY.af ay
 refine aB (jH ay) (fun w88 Qz => ?_)
 replace aP := (((((aP.ai bW).aF bQ lX).ai CZ).ai xW).ai HY).ai Qz
 replace aV := Qz.af (HY.af (xW.af (CZ.af (bQ.aj (bW.af aV) lF))))
 refine aB (eF aV aP hn1) (fun w89 H5 => ?_)
 replace aP := aP.ai H5
 replace aV := H5.af aV
 refine aB (qw aV aP hn1 hN1 hb1 (i := cur1)) (fun w90 H6 => ?_)
 replace gV := H6.af (H5.af (Qz.af (HY.af (xW.af (CZ.af gV)))))
 refine Z.b 2 ((Gs.kv x14).toArray) gV ?_
 replace aG := H6.af (H5.af (Qz.af (HY.af (xW.af aG))))
 replace ay := H6.af (H5.af (Qz.af ay))
 replace aP := aP.ai H6
 replace aV := H6.af aV
 refine aN (BP aV aP hW1 aG ay (k := x14.1) hkx (by omega) hst1) (fun v91 w91 D91 => ?_)
 have fU := aP
 replace hF := (((((((hF.go0 bW).go1 bQ wM).go0 CZ).go0 xW).go0 HY).go0 Qz).go0 H5).go0 H6
 have qF91 := hF.size
 obtain ⟨e88, st2, why2, tn2, ins2, cs2, cur2, rfl, hst2, hW2, hpr88, aV, aP, aG, Pn⟩ := D91
 replace bT := (((((((bT.ai bW).aF bQ nP).ai CZ).ai xW).ai HY).ai Qz).ai H5).ai H6
 replace bT := bT.dX Pn (fun hs => by rcases hs with (hs | hs) | hs <;> first | (exact Own.Gn fU bT _ hs rfl) | (exact absurd hs (Ne.symm jI)) | (exact absurd hs (Ne.symm lG)))
 replace dD := (((((((dD.ai bW).aF bQ qj).ai CZ).ai xW).ai HY).ai Qz).ai H5).ai H6
 replace dD := dD.dX Pn ((hlk.Ec aP).elim .inl fun h0 => (hlk.ne gbp42).elim .inl fun h1 => zY.elim .inl fun h2 => .inr fun k hk hs => by rcases hs with (hs | hs) | hs <;> first | exact h0 k hk hs | exact h1 k hk hs | exact h2 k hk hs)
 replace ay := Pn.get ay (fun hs => by rcases hs with (hs | hs) | hs <;> first | (first | exact Own.aS fU ay (by decide) _ hs rfl | (have := Own.ge fU hs; omega)) | (exact absurd hs (by exact dW (by assumption) (by assumption) (by decide))))
 replace gV := Pn.get gV (fun hs => by rcases hs with (hs | hs) | hs <;> first | (first | exact Own.aS fU gV (by decide) _ hs rfl | (have := Own.ge fU hs; omega)) | (exact absurd hs (Ne.symm lF)) | (exact absurd hs (Ne.symm rE)))
 replace hF := hF.go Pn (fun i hi hs => by (rcases hs with (hs | hs) | hs <;> first | (subst hs; omega) | (have := (Own.ge fU hs).1; omega)))
 clear fU
 refine Z.e ?_
 refine Z.e ?_
 refine Z.f 0 ?_
 refine Z.l gV ?_
 refine az (cZ _ _ _ _ _) (fun h92 => ?_) (fun h92 => ?_)
 refine bu (bu (bu (aT (bu (bu (bu (aT ?_)))))))
 refine az (cZ _ _ _ _ _) (fun h93 => ?_) (fun h93 => ?_)
 refine aX (aT (aX (aX ?_)))
 refine az (geq _ _ _ _) (fun h94 => ?_) (fun h94 => ?_)
 refine aT (aJ ?_)
 refine kG (kt := 3) (e := 4) (by kernel_rfl) bT (fun w95 bT _ LM => ?_)
 refine hJ3 _ _ ?_
 replace dD := dD.aF LM mO
 replace aP := aP.aF LM jM
 replace ay := LM.aj ay nT
 replace aG := LM.aj aG lG
 replace aV := LM.aj aV jI
 replace hF := hF.go1 LM sJ
 exact ⟨_, _, _, _, _, _, _, _, (by assumption), (by (have h9 := hmk1.iU hpr88 (by omega) (hem2.1 (by omega)); (rw [if_pos ⟨by omega, by unfold Gs.iH; omega, by omega⟩] at h9; exact h9))), (by exact hT1.set _), (by assumption), aG, aV, aP, bT, dD, ay, hF⟩
 refine aT (aC ?_)
 refine hJ3 _ _ ?_
 exact ⟨_, _, _, _, _, _, _, _, (by assumption), (by (have h9 := hmk1.iU hpr88 (by omega) (hem2.1 (by omega)); (rw [if_neg (fun h => by unfold Gs.iH at h; omega)] at h9; exact h9))), (by exact hT1), (by assumption), aG, aV, aP, bT, dD, ay, hF⟩
 refine aQ (aU (aQ (aQ (aU (aC ?_)))))
 refine hJ3 _ _ ?_
 exact ⟨_, _, _, _, _, _, _, _, (by assumption), (by (have h9 := hmk1.iU hpr88 (by omega) (hem2.1 (by omega)); (rw [if_neg (fun h => by unfold Gs.iH at h; omega)] at h9; exact h9))), (by exact hT1), (by assumption), aG, aV, aP, bT, dD, ay, hF⟩
 refine bD ?_
 refine Z.f 0 ?_
 refine bD ?_
 refine Z.l gV ?_
 refine bD ?_
 refine az (cZ _ _ _ _ _) (fun h96 => ?_) (fun h96 => ?_)
 refine aU (bu (bu (bu (aT ?_))))
 refine az (cZ _ _ _ _ _) (fun h97 => ?_) (fun h97 => ?_)
 refine aX (aT (aX (aX ?_)))
 refine az (geq _ _ _ _) (fun h98 => ?_) (fun h98 => ?_)
 refine aT (aJ ?_)
 refine kG (kt := 3) (e := 4) (by kernel_rfl) bT (fun w99 bT _ LP => ?_)
 refine hJ3 _ _ ?_
 replace dD := dD.aF LP mO
 replace aP := aP.aF LP jM
 replace ay := LP.aj ay nT
 replace aG := LP.aj aG lG
 replace aV := LP.aj aV jI
 replace hF := hF.go1 LP sJ
 exact ⟨_, _, _, _, _, _, _, _, (by assumption), (by (have h9 := hmk1.iU hpr88 (by omega) (hem2.1 (by omega)); (rw [if_pos ⟨by omega, by unfold Gs.iH; omega, by omega⟩] at h9; exact h9))), (by exact hT1.set _), (by assumption), aG, aV, aP, bT, dD, ay, hF⟩
 refine aT (aC ?_)
 refine hJ3 _ _ ?_
 exact ⟨_, _, _, _, _, _, _, _, (by assumption), (by (have h9 := hmk1.iU hpr88 (by omega) (hem2.1 (by omega)); (rw [if_neg (fun h => by unfold Gs.iH at h; omega)] at h9; exact h9))), (by exact hT1), (by assumption), aG, aV, aP, bT, dD, ay, hF⟩
 refine aQ (aU (aQ (aQ (aU (aC ?_)))))
 refine hJ3 _ _ ?_
 exact ⟨_, _, _, _, _, _, _, _, (by assumption), (by (have h9 := hmk1.iU hpr88 (by omega) (hem2.1 (by omega)); (rw [if_neg (fun h => by unfold Gs.iH at h; omega)] at h9; exact h9))), (by exact hT1), (by assumption), aG, aV, aP, bT, dD, ay, hF⟩
 refine aU (bD ?_)
 refine Z.f 0 ?_
 refine bD ?_
 refine Z.l gV ?_
 refine bD ?_
 refine az (geq _ _ _ _) (fun h100 => ?_) (fun h100 => ?_)
 refine aU ?_
 refine az (cZ _ _ _ _ _) (fun h101 => ?_) (fun h101 => ?_)
 refine aX (aT (aX (aX ?_)))
 refine az (geq _ _ _ _) (fun h102 => ?_) (fun h102 => ?_)
 refine aT (aJ ?_)
 refine kG (kt := 3) (e := 4) (by kernel_rfl) bT (fun w103 bT _ Ph => ?_)
 refine hJ3 _ _ ?_
 replace dD := dD.aF Ph mO
 replace aP := aP.aF Ph jM
 replace ay := Ph.aj ay nT
 replace aG := Ph.aj aG lG
 replace aV := Ph.aj aV jI
 replace hF := hF.go1 Ph sJ
 exact ⟨_, _, _, _, _, _, _, _, (by assumption), (by (have h9 := hmk1.iU hpr88 (by omega) (hem2.1 (by omega)); (rw [if_pos ⟨by omega, by unfold Gs.iH; omega, by omega⟩] at h9; exact h9))), (by exact hT1.set _), (by assumption), aG, aV, aP, bT, dD, ay, hF⟩
 refine aT (aC ?_)
 refine hJ3 _ _ ?_
 exact ⟨_, _, _, _, _, _, _, _, (by assumption), (by (have h9 := hmk1.iU hpr88 (by omega) (hem2.1 (by omega)); (rw [if_pos ⟨by omega, by unfold Gs.iH; omega, by omega⟩] at h9; exact h9))), (by (exfalso; omega)), (by assumption), aG, aV, aP, bT, dD, ay, hF⟩
 refine aQ (aU (aQ (aQ (aU (aC ?_)))))
 refine hJ3 _ _ ?_
 exact ⟨_, _, _, _, _, _, _, _, (by assumption), (by (have h9 := hmk1.iU hpr88 (by omega) (hem2.1 (by omega)); (rw [if_pos ⟨by omega, by unfold Gs.iH; omega, by omega⟩] at h9; exact h9))), (by (exfalso; omega)), (by assumption), aG, aV, aP, bT, dD, ay, hF⟩
 refine aU ?_
 refine az (cZ _ _ _ _ _) (fun h104 => ?_) (fun h104 => ?_)
 refine aX (aT (aQ (aQ (aU (aC ?_)))))
 refine hJ3 _ _ ?_
 exact ⟨_, _, _, _, _, _, _, _, (by assumption), (by (have h9 := hmk1.iU hpr88 (by omega) (hem2.1 (by omega)); (rw [if_neg (fun h => by unfold Gs.iH at h; omega)] at h9; exact h9))), (by exact hT1), (by assumption), aG, aV, aP, bT, dD, ay, hF⟩
 refine aQ (aU (aQ (aQ (aU (aC ?_)))))
 refine hJ3 _ _ ?_
 exact ⟨_, _, _, _, _, _, _, _, (by assumption), (by (have h9 := hmk1.iU hpr88 (by omega) (hem2.1 (by omega)); (rw [if_neg (fun h => by unfold Gs.iH at h; omega)] at h9; exact h9))), (by exact hT1), (by assumption), aG, aV, aP, bT, dD, ay, hF⟩
 obtain ⟨cs2, cur2, T2, m2, st2, why2, tn2, ins2, hW2, hmk2, hT2, hst2, aG, aV, aP, bT, dD, ay, hF⟩ := hI
 refine ak (dK _ (by omega)) ?_
 exact ⟨⟨k + 1, cs2, cur2, T2, m2, st2, why2, tn2, ins2, (by rfl), by omega, hW2, hmk2, hT2, hst2, aG, aV, aP, bT, dD, ay, hF⟩, cnt_lt (by rfl) rfl (by omega)⟩
 refine aC ?_
 refine hJ1 _ _ ?_
 exact ⟨_, _, _, _, _, _, _, _, hW1, hmk1, hT1, hst1, aG, aV, aP, bT, dD, ay, hF⟩
 replace dD := dD.ai di
 replace aP := aP.ai di
 replace aG := di.af aG
 replace ay := di.af ay
 replace aV := di.af aV
 replace hF := hF.go0 di
 obtain ⟨cs1, cur1, T1, m1, st1, why1, tn1, ins1, hW1, hmk1, hT1, hst1, aG, aV, aP, bT, dD, ay, hF⟩ := hI
 obtain ⟨hn1, hcw1, hcu1, hp1, hN1, hb1⟩ := id hW1
 refine bM (fun g w' => (qg w' .i64 b12 m1) ∧ (Rd w' kA (rows Gs.kv ks)) ∧ (Z.h w' bs #[Z.i s0.r0, Z.i s0.c0, Z.i s0.r1, Z.i s0.c1, Z.i s0.wh, Z.p bp42] 89) ∧ (aA no w w')) (fun J4 hJ4 => ?_) (fun gJ4 wJ4 hI => ?_)
 refine aB (jH ay) (fun w105 Ai => ?_)
 replace aP := aP.ai Ai
 replace aV := Ai.af aV
 refine aB (fG aV aP hn1) (fun w106 yF => ?_)
 refine ed (fun g w' => ∃ (k : Nat), (g 119 = Z.i (k : Int)) ∧ (k ≤ n42) ∧ (Z.h w' bk #[Z.p bs, Z.i st1, Z.i why1, Z.i tn1, .bool ins1, Z.u last] 95) ∧ (Z.h w' bp42 #[Z.i s0.r, Z.i s0.c, .slice A42 n42 cp42, Z.i cur1] 91) ∧ (Own w.heap.size w' 37 5 (.slice A42 n42 cp42) (rows Gs.cv cs1)) ∧ (qg w' .i64 b12 m1) ∧ (Rd w' kA (rows Gs.kv ks)) ∧ (Z.h w' bs #[Z.i s0.r0, Z.i s0.c0, Z.i s0.r1, Z.i s0.c1, Z.i s0.wh, Z.p bp42] 89) ∧ (aA no w w')) (fun g w' => n42 - (RowKit.intOf (g 119)).toNat) ?_ (fun g5 wl5 hI => ?_)
 replace bT := (bT.ai Ai).ai yF
 replace dD := (dD.ai Ai).ai yF
 replace aG := yF.af (Ai.af aG)
 replace ay := yF.af (Ai.af ay)
 replace hF := (hF.go0 Ai).go0 yF
 replace aP := aP.ai yF
 replace aV := yF.af aV
 exact ⟨0, (by rfl), Nat.zero_le _, aG, aV, aP, bT, dD, ay, hF⟩
 replace bT := (bT.ai Ai).ai yF
 replace dD := (dD.ai Ai).ai yF
 replace aG := yF.af (Ai.af aG)
 replace ay := yF.af (Ai.af ay)
 replace hF := (hF.go0 Ai).go0 yF
 replace aP := aP.ai yF
 replace aV := yF.af aV
 obtain ⟨k, g119, hk, aG, aV, aP, bT, dD, ay, hF⟩ := hI
 rw [g119]
 refine az (lss _ _ _ _) (fun h107 => ?_) (fun h107 => ?_)
 refine aJ ?_
 refine aB (jH ay) (fun w108 Ls => ?_)
 replace aP := aP.ai Ls
 replace aV := Ls.af aV
 refine aB (iF aV aP hn1 (i := (k : Int))) (fun w109 Lt => ?_)
 have hgw := Gs.sG hcw1 (k : Int)
 refine Z.n ((Gs.cv Gs.zc).toArray) (fun b110 w110 e110 NV _ yG => ?_)
 replace aG := Lt.af (Ls.af aG)
 have NW : bk ≠ b110 := by have := au aG; omega
 replace aV := Lt.af aV
 have Ji : bp42 ≠ b110 := by have := au aV; omega
 replace aP := aP.ai Lt
 have DN := aP.apart e110
 replace bT := (bT.ai Ls).ai Lt
 have Ho := bT.apart e110
 replace dD := (dD.ai Ls).ai Lt
 have Kq := dD.apart e110
 replace ay := Lt.af (Ls.af ay)
 have NY : bs ≠ b110 := by have := au ay; omega
 replace hF := (hF.go0 Ls).go0 Lt
 have Xu : w.heap.size ≤ b110 := by have := hF.size; omega
 refine Z.t 5 ((Gs.cv (Gs.bV cs1 (k : Int))).toArray) (by (simp [Value.cells, Value.oneCell', Gs.cv, Gs.fv, Gs.ie, Gs.pe, Gs.oe, Gs.cO, Gs.fe, Gs.fM, Gs.ce, Gs.dZ, Gs.re, Gs.de, Gs.ie, Gs.kv]; done)) NV (fun w111 NV _ yH => ?_)
 refine Z.f 2 ?_
 refine pK (kZ (by kernel_rfl) NV (by rfl)) (fun h112 => ?_) (fun h112 => ?_)
 refine aX ?_
 refine Z.f 0 ?_
 refine aX ?_
 refine Z.l NV ?_
 refine aX ?_
 refine ak (Q8 _ (by omega)) ?_
 refine aX ?_
 refine ak (cZ _ _ _ _ _) ?_
 refine aX (aX (aX ?_))
 replace bT := (bT.ai yG).aF yH Ho
 refine ak (adO (kt := 3) (e := 4) (by kernel_rfl) (by kernel_rfl) (by kernel_rfl) bT hT1) ?_
 refine aX ?_
 replace aP := (aP.ai yG).aF yH DN
 replace dD := (dD.ai yG).aF yH Kq
 replace aG := yH.aj (yG.af aG) NW
 replace aV := yH.aj (yG.af aV) Ji
 replace ay := yH.aj (yG.af ay) NY
 replace hF := (hF.go0 yG).go1 yH Xu
 refine ny (neB _ _ (by kernel_rfl) _ _) (fun h => h (by have := hmk1 (k : Int) (by omega) (by assumption); simp [this])) ?_
 refine aT (aC ?_)
 refine ak (dK _ (by omega)) ?_
 exact ⟨⟨k + 1, (by rfl), by omega, aG, aV, aP, bT, dD, ay, hF⟩, cnt_lt (by rfl) rfl (by omega)⟩
 refine aQ (aQ (aQ (aQ (aQ (aQ (aQ (aQ (aU (aC ?_)))))))))
 refine ak (dK _ (by omega)) ?_
 replace aP := (aP.ai yG).aF yH DN
 replace bT := (bT.ai yG).aF yH Ho
 replace dD := (dD.ai yG).aF yH Kq
 replace aG := yH.aj (yG.af aG) NW
 replace aV := yH.aj (yG.af aV) Ji
 replace ay := yH.aj (yG.af ay) NY
 replace hF := (hF.go0 yG).go1 yH Xu
 exact ⟨⟨k + 1, (by rfl), by omega, aG, aV, aP, bT, dD, ay, hF⟩, cnt_lt (by rfl) rfl (by omega)⟩
 refine aC ?_
 refine hJ4 _ _ ?_
 exact ⟨bT, dD, ay, hF⟩
 obtain ⟨bT, dD, ay, hF⟩ := hI
 exact ⟨rfl, hF⟩
theorem Uy {r c : Int} {ds : List Gs.lK} {dA : Option Addr} {dc : Nat} {gT : Nat} {eT : TypeId} {fT : Nat × Nat} {w : World} (hgT : Tryz.prog.globalNamed "internal/strconv.uint64pow10" = some gT) (dO : w.heap[gT]? = some (.cells Gs.Af eT fT)) (jk : Rd w dA (rows Gs.de ds)) (jl : Gs.uk w ds) (hdw : Gs.MB ds) (hdn : ds.length ≤ maxLen) {kA : Option Addr} {kc : Nat} {ks : List (Int × Int)} (dD : Rd w kA (rows Gs.kv ks)) (hkw : ∀ a ∈ ks, Gs.Kw a) (hkn : ks.length ≤ maxLen)  :
    oX 5 #[.agg #[Z.i r, Z.i c], .slice dA ds.length dc, .slice kA ks.length kc] w fun e w' => e = .returned (.bool true) ∧ aA no w w' := by
 by_cases hok : Gs.Eb r c ds
 exact NU hgT dO jk jl hdw hdn hok dD hkw hkn
 exact NT hgT dO jk jl hdw hdn hok dD hkw hkn
end Go.Proofs.YtjdoakbadehicaaGreatDoor
end
section
namespace Go.Sh
open Go Go.ChangeShapes Go.WideShapes Go.RowKit
section
variable {H : Type} {enc : TypeId × Value → H} {P : Program} {w : World} {base : Nat} {spare : Nat → Bool} {held : Bool}
theorem Wj {α : Type} {f : α → List Value} {m : Nat} {Q : α → Prop} (hf : Enc f m) {t e : TypeId} (ht : P.underlying t = some (.slice e)) (hc : P.cellsOf e = m) {fuel : Nat} {cs : List Value} {x : DataW H × List MemPlace}
  (hd : ∀ fuel cs x, DataW.trod enc P w base spare held fuel e cs = some x → ∃ a, cs = f a ∧ Q a) (hf1 : DataW.trod enc P w base spare held fuel t cs = some x) :
  ∃ (A : Option Addr) (len cap : Nat) (l : List α), cs = [.slice A len cap] ∧ Rd w A (rows f l) ∧ (∀ a ∈ l, Q a) ∧ len = l.length ∧ len ≤ cap ∧ cap ≤ maxLen := by
 rcases Go.Deep.open_slice ht hf1 with ⟨hcs, _⟩ | ⟨a, len, cap, m', n', D, Pl, hcs, _, hl, hm, hmm, _, hx⟩
 ·exact ⟨none, 0, 0, [], hcs, .inl rfl, (fun a ha => by cases ha), rfl, Nat.le_refl _, Nat.zero_le _⟩
 ·have hlm : len ≤ m' := by rw [hmm]; split <;> omega
  have key : ∀ k, k ≤ len → ∃ l : List α, l.length = k ∧ (∀ a ∈ l, Q a) ∧ ∀ i x, l[i]? = some x → w.cells? base (a.add (i * m)) m = some (f x) := by
   intro k
   induction k with
   | zero => intro _; exact ⟨[], rfl, (fun a ha => by cases ha), fun i x h => by simp at h⟩
   | succ k ih =>
    intro hk
    obtain ⟨l, h1, h2, h3⟩ := ih (by omega)
    obtain ⟨cs', h4, h5⟩ := hx k (by omega)
    obtain ⟨y, rfl, hq⟩ := hd _ _ _ h5
    refine ⟨l ++ [y], by simp [h1], fun b hb => ?_, fun i x hi => ?_⟩
    ·rcases List.mem_append.1 hb with hb | hb
     ·exact h2 b hb
     ·simp at hb; subst hb; exact hq
    ·by_cases hik : i < l.length
     ·rw [List.getElem?_append_left hik] at hi; exact h3 i x hi
     ·rw [List.getElem?_append_right (by omega)] at hi
      have hi0 : i - l.length = 0 := by
       have := (List.getElem?_eq_some_iff.1 hi).1
       simp at this; omega
      rw [hi0] at hi
      simp at hi
      subst hi
      have : i = k := by omega
      subst this
      rw [hc] at h4; exact h4
  obtain ⟨l, h1, h2, h3⟩ := key len (Nat.le_refl _)
  refine ⟨some a, len, cap, l, hcs, .inr ⟨a, rfl, fun j hj => ?_⟩, h2, h1.symm, hl, hm⟩
  rw [iC hf] at hj
  have hm0 := hf.pos
  have hq : j / m < l.length := Nat.div_lt_of_lt_mul (by rw [Nat.mul_comm]; exact hj)
  have hr : j % m < m := Nat.mod_lt _ hm0
  have hj' : j = j / m * m + j % m := by have := Nat.div_add_mod j m; rw [Nat.mul_comm] at this; omega
  have hxl : l[j / m]? = some l[j / m] := List.getElem?_eq_getElem hq
  obtain ⟨_, _, h6⟩ := World.cells?_some (h3 _ _ hxl)
  have h7 := h6 (j % m) hr
  rw [add_add, ← hj'] at h7
  rw [h7, ← NZ hf hxl, List.getElem?_take, if_pos hr, List.getElem?_drop, ← hj']
theorem fields_of {fs : Array Field} {t : TypeId} {fuel : Nat} {cs : List Value} {x : DataW H × List MemPlace} (ht : P.underlying t = some (.struct fs)) (h : DataW.trod enc P w base spare held fuel t cs = some x) :
  cs.length = P.cellsOf t ∧ ∃ n, ∀ (i : Nat) (f : Field), fs[i]? = some f → ∃ y, DataW.trod enc P w base spare held n f.type ((cs.drop f.offset).take (P.cellsOf f.type)) = some y := by
 obtain ⟨xs, n, _, _, hl, hx, hf⟩ := DataW.trod_struct ht h
 refine ⟨hl, n, fun i f hi => ?_⟩
 have hlt : i < xs.length := by rw [hx]; exact (Array.getElem?_eq_some_iff.1 hi).1
 exact ⟨xs[i], by rw [hf i f hi]; exact List.getElem?_eq_getElem hlt⟩
end
end Go.Sh
namespace Go.Proofs.YtjdoakbadehicaaGreatDoor
set_option maxRecDepth 100000
set_option linter.constructorNameAsVariable false
open Go Go.Sh Go.ChangeShapes Go.WideShapes Go.RowKit
section
variable {H : Type} {enc : TypeId × Value → H} {w : World} {base : Nat} {spare : Nat → Bool} {held : Bool}
theorem ae7 {n : Int} (h : (Lit.int .u8 n).wf = true) : 0 ≤ n ∧ n ≤ 255 := by
 have h1 : (decide (0 ≤ n) && decide (n ≤ 255)) = true := h
 simpa using h1
end
theorem SS : ∀ cs, nH [.int .i64, .int .u8] cs → ∃ a, cs = Gs.kv a ∧ Gs.Kw a := by
 rintro cs ⟨_, _, rfl, ⟨a, rfl, _⟩, ⟨_, _, rfl, ⟨b, rfl, hb⟩, rfl⟩⟩
 exact ⟨(a, b), rfl, ae7 hb⟩
section
variable {H : Type} {enc : TypeId × Value → H} {w : World} {base : Nat} {spare : Nat → Bool} {held : Bool}
theorem aaY {fuel : Nat} {cs : List Value} {x : DataW H × List MemPlace} (h : DataW.trod enc Tryz.prog w base spare held fuel 118 cs = some x) : ∃ d : Gs.lK, cs = Gs.de d ∧ Rd w d.A (vals .u8 d.b) ∧ Gs.Dw1 d := by
 obtain ⟨hl, n, hf⟩ := fields_of Tryz.underlying118 h
 rw [show Tryz.prog.cellsOf 118 = 3 by kernel_rfl] at hl
 obtain ⟨y0, h0⟩ := hf 0 _ rfl
 obtain ⟨y1, h1⟩ := hf 1 _ rfl
 replace h0 : DataW.trod enc Tryz.prog w base spare held n 24 ((cs.drop 0).take (Tryz.prog.cellsOf 24)) = some y0 := h0
 rw [show Tryz.prog.cellsOf 24 = 1 by kernel_rfl] at h0
 replace h1 : DataW.trod enc Tryz.prog w base spare held n 45 ((cs.drop 1).take (Tryz.prog.cellsOf 45)) = some y1 := h1
 rw [show Tryz.prog.cellsOf 45 = 2 by kernel_rfl] at h1
 match cs, hl with
 | [a, b, c], _ =>
  obtain ⟨A, len, cap, l, ha, rd, hq, hn, hc, _⟩ := Wj (encI .u8) Tryz.underlying24 (by kernel_rfl) (Q := fun a : Int => (Lit.int .u8 a).wf = true) (fun fuel cs x hx => acK .u8 _ (xQ 3 fuel 5 _ cs x (by kernel_rfl) hx)) h0
  obtain ⟨q, hb, hkw⟩ := SS _ (xQ 3 n 45 _ _ _ (by kernel_rfl) h1)
  simp only [List.drop_zero, List.take_succ_cons, List.take_zero, List.cons.injEq, and_true] at ha
  simp only [List.drop_succ_cons, List.drop_zero, List.take_succ_cons, List.take_zero, Gs.kv, List.cons.injEq, and_true] at hb
  obtain ⟨rfl, rfl⟩ := hb
  subst ha hn
  rw [af8] at rd
  exact ⟨⟨A, cap, l, q.1, q.2⟩, rfl, rd, hc, fun x hx => ae7 (hq x hx), hkw⟩
theorem Ym {r : Reach} {b0 : Nat} {v : Value} {d : DataW H} {ps : List MemPlace} (hval : Value.okWide Tryz.prog w r b0 57 v) (h : DataW.Trod enc Tryz.prog w base spare held 57 v d ps) :
  ∃ (A : Option Addr) (c : Nat) (l : List Gs.lK), v = .slice A l.length c ∧ Rd w A (rows Gs.de l) ∧ Gs.uk w l ∧ Gs.MB l ∧ l.length ≤ maxLen := by
 obtain ⟨A, len, cap, rfl⟩ := okWide_slice Tryz.underlying57 hval
 obtain ⟨fuel, h⟩ := h
 obtain ⟨A2, len2, cap2, l, he, rd, hq, hn, hcp, hmx⟩ := Wj Gs.ae9 Tryz.underlying57 (by kernel_rfl) (Q := fun d : Gs.lK => Rd w d.A (vals .u8 d.b) ∧ Gs.Dw1 d) (fun fuel cs x hx => aaY hx) h
 simp only [Value.cells, List.cons.injEq, Value.slice.injEq, and_true] at he
 obtain ⟨rfl, rfl, rfl⟩ := he
 subst hn
 exact ⟨A, cap, l, rfl, rd, fun x hx => (hq x hx).1, fun x hx => (hq x hx).2, Nat.le_trans hcp hmx⟩
end
end Go.Proofs.YtjdoakbadehicaaGreatDoor
end
