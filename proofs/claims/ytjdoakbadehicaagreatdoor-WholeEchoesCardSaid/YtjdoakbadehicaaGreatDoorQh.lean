/- Part of a proof. No condition but those that its theorems state. -/
import Derived.Test.YtjdoakbadehicaaGreatDoorQg
import Derived.Test.YtjdoakbadehicaaGreatDoorQc
import Derived.Test.YtjdoakbadehicaaGreatDoorQf
import Derived.Test.YtjdoakbadehicaaGreatDoorQd
import Derived.Test.YtjdoakbadehicaaGreatDoorProg
import Derived.Test.YtjdoakbadehicaaGreatDoorQa
import Derived.KernelRfl
import Derived.WalkKit
import Derived.Lib.Builder
import Derived.Laws.Externs
import Derived.Lib.AppendStr
import Derived.Shelf.RegionOpenPlain
set_option linter.unusedVariables false
set_option linter.unusedSimpArgs false
section
namespace Go.Proofs.YtjdoakbadehicaaGreatDoor
open Go Go.Sh
set_option maxRecDepth 100000
theorem Oz {s : Gs.gV} {A : Option Addr} {n cp bp bs B0 : Nat} {bk : Nat} {st why tn last : Int} {ins : Bool} {w : World} (ax : Z.h w bs #[Z.i s.r0, Z.i s.c0, Z.i s.r1, Z.i s.c1, Z.i s.wh, Z.p bp] 89) (ag : Z.h w bp #[Z.i s.r, Z.i s.c, .slice A n cp, Z.i s.cur] 91) (ae : Own B0 w 37 5 (.slice A n cp) (rows Gs.cv s.cs)) (hS : Gs.Sw n s) (hB0 : B0 ≤ w.heap.size) (aC : Z.h w bk #[Z.p bs, Z.i st, Z.i why, Z.i tn, .bool ins, Z.u last] 95) {k x : Int} (hxb : 0 ≤ x ∧ x ≤ 255) (hst : 1 ≤ st ∧ st ≤ 3) {r c : Int} (hone : Gs.zH r c s) :
    oX 18 #[Z.p bk, .agg #[Z.i k, Z.u x]] w fun e w' => ∃ v, e = .returned v ∧ ∃ (st' why' tn' last' : Int) (ins' : Bool) (s' : Gs.gV) (bp' : Nat) (A' : Option Addr) (n' cp' : Nat), (1 ≤ st' ∧ st' ≤ 3) ∧ Gs.Sw n' s' ∧ Gs.zH r c s' ∧ Z.h w' bk #[Z.p bs, Z.i st', Z.i why', Z.i tn', .bool ins', Z.u last'] 95 ∧ Z.h w' bs #[Z.i s'.r0, Z.i s'.c0, Z.i s'.r1, Z.i s'.c1, Z.i s'.wh, Z.p bp'] 89 ∧ Z.h w' bp' #[Z.i s'.r, Z.i s'.c, .slice A' n' cp', Z.i s'.cur] 91 ∧ Own B0 w' 37 5 (.slice A' n' cp') (rows Gs.cv s'.cs) ∧ (bp' = bp ∨ w.heap.size ≤ bp') ∧ (∀ k, aG (.slice A' n' cp') k → aG (.slice A n cp) k ∨ w.heap.size ≤ k) ∧ aB (fun k => ((aG (.slice A n cp) k ∨ k = bp) ∨ k = bs) ∨ k = bk) w w' := by
 by_cases hk : k = 17
 subst hk
 refine (Oy ax ag ae hS hB0 aC hxb).mono fun e w' D => ?_
 obtain ⟨v, hv, q, er, st', why', tn', last', ins', -, hd, hbk, bp', A', n', cp', h1, h2, h3, h4, h5, h6, hU⟩ := D
 exact ⟨v, hv, st', why', tn', last', ins', _, bp', A', n', cp', by omega, h4 ▸ hS.Zc _, hone.Zc _, hbk, h1, h2, h3, h5, h6, hU⟩
 refine (Az ag ae hS.2 aC ax hxb hk hst).mono fun e w' D => ?_
 obtain ⟨v, hv, er, st', why', tn', ins', c1, cur1, -, hs, hW, hpg, h1, h2, h3, hU⟩ := D
 exact ⟨v, hv, st', why', tn', last, ins', { s with cs := c1, cur := cur1 }, bp, A, n, cp, hs, ⟨hS.1, hW⟩, ⟨hone.1, hpg.1 hone.2⟩, h3, hU.get ax (fun hs => by
   rcases hs with (hs | hs) | hs
   · have := aj ax; exact Own.aT ae ax (by decide) _ hs rfl
   · subst hs; have e := Option.some.inj (ax.symm.trans ag); injection e with e1 e2; exact absurd e2 (by decide)
   · subst hs; have e := Option.some.inj (ax.symm.trans aC); injection e with e1 e2; exact absurd e2 (by decide)), h1, h2, .inl rfl, fun k hk => .inl hk, hU.mono (Nat.le_refl _) (fun i _ h => h.elim (fun h => .inl (.inl h)) .inr)⟩
theorem IL {r0 c0 r1 c1 : Int} {w : World} (hz : Gs.aY r0 c0 = 0) :
    oX 12 #[.agg #[Z.i r0, Z.i c0], .agg #[Z.i r1, Z.i c1]] w fun e w' => e = .returned (.tuple #[.pointer none, Z.i 1]) ∧ aB no w w' := by
 refine SC.calls ?_
 unfold SC
 have hF : aB no w w := Fr.refl _ _ _
 refine Z.x (#[Z.i r0, Z.i c0]) (fun b1 w1 e1 ah _ U1 => ?_)
 refine Z.x (#[Z.i r1, Z.i c1]) (fun b2 w2 e2 ay _ U2 => ?_)
 replace ah := U2.af ah
 refine Z.b 2 (#[Z.i r0, Z.i c0]) ah ?_
 refine aA (qm (r := r0) (c := c0)) (fun w3 U3 => ?_)
 refine qf (dh _ _ _ _ _) (hz) ?_
 refine bg (bg (bg (aU (aK ?_))))
 replace hF := ((hF.go0 U1).go0 U2).go0 U3
 exact ⟨rfl, hF⟩
theorem Em {r c : Int} {ds : List Gs.jU} {dA : Option Addr} {dc : Nat} {w : World} (hz : Gs.aY r c = 0) :
    oX 22 #[.agg #[Z.i r, Z.i c], .slice dA ds.length dc] w fun e w' => e = .returned (.tuple #[.pointer none, .pointer none, .bool false]) ∧ aB no w w' := by
 refine Nk.calls ?_
 unfold Nk
 have hF : aB no w w := Fr.refl _ _ _
 refine Z.x (#[Z.i r, Z.i c]) (fun b1 w1 e1 ah _ U1 => ?_)
 refine Z.b 2 (#[Z.i r, Z.i c]) ah ?_
 refine Z.b 2 (#[Z.i r, Z.i c]) ah ?_
 refine aA (IL (r1 := r) (c1 := c) hz) (fun w2 U2 => ?_)
 refine Z.e ?_
 refine Z.e ?_
 refine qf (jO _ _ _ _ _) (by decide) ?_
 refine bg (bg (bg (bg (aU (bg (bg (bg (aU (aK ?_)))))))))
 replace hF := (hF.go0 U1).go0 U2
 exact ⟨rfl, hF⟩
set_option maxHeartbeats 4000000 in
theorem xu {r c : Int} {ds : List Gs.jU} {dA : Option Addr} {dc : Nat} {w : World} (dK : Rd w dA (rows Gs.de ds)) (dL : Gs.pO w ds) (hdw : Gs.Ah ds) (hdn : ds.length ≤ maxLen) (hz : Gs.aY r c ≠ 0) :
    oX 22 #[.agg #[Z.i r, Z.i c], .slice dA ds.length dc] w fun e w' => ∃ v, e = .returned v ∧ ((¬ Gs.uh r c ds ∧ v = .tuple #[.pointer none, .pointer none, .bool false] ∧ aB no w w') ∨ (Gs.uh r c ds ∧ ∃ (s : Gs.gV) (bs bk bp : Nat) (A : Option Addr) (n cp : Nat) (st why tn last : Int) (ins : Bool), v = .tuple #[Z.p bs, Z.p bk, .bool true] ∧ w.heap.size ≤ bs ∧ w.heap.size ≤ bk ∧ w.heap.size ≤ bp ∧ (1 ≤ st ∧ st ≤ 3) ∧ Gs.Sw n s ∧ Gs.zH r c s ∧ n ≤ 60 ∧ Z.h w' bk #[Z.p bs, Z.i st, Z.i why, Z.i tn, .bool ins, Z.u last] 95 ∧ Z.h w' bs #[Z.i s.r0, Z.i s.c0, Z.i s.r1, Z.i s.c1, Z.i s.wh, Z.p bp] 89 ∧ Z.h w' bp #[Z.i s.r, Z.i s.c, .slice A n cp, Z.i s.cur] 91 ∧ Own w.heap.size w' 37 5 (.slice A n cp) (rows Gs.cv s.cs) ∧ aB no w w')) := by
 refine Nk.calls ?_
 unfold Nk
 obtain ⟨B0, hB0⟩ : ∃ B, B = w.heap.size := ⟨_, rfl⟩
 have hldd : GZ dA (rows Gs.de ds) B0 := hB0 ▸ dK.lt
 have hlde : Gs.Xa ds B0 := hB0 ▸ dL.lt
 have hcb := Gs.yM r c
 have hF : aB no w w := Fr.refl _ _ _
 refine Z.x (#[Z.i r, Z.i c]) (fun b1 w1 e1 ah _ U1 => ?_)
 refine Z.b 2 (#[Z.i r, Z.i c]) ah ?_
 refine Z.b 2 (#[Z.i r, Z.i c]) ah ?_
 refine aI (zK (r0 := r) (c0 := c) (r1 := r) (c1 := c) hz hz) (fun v2 w2 D2 => ?_)
 obtain ⟨bs, bp, gg, rfl, gbs, gbp, ax, ag, ae, U2⟩ := D2
 replace hF := hF.go0 U1
 have afW := hF.size
 have gBs : B0 ≤ bs := by omega
 have gBp : B0 ≤ bp := by omega
 replace dK := dK.ai U1
 have ru := (dK.lt).ne (b := bs) (by omega)
 replace dL := dL.ai U1
 have ry := (dL.lt).ne (b := bs) (by omega)
 replace ae := ae.mono (B' := w.heap.size) hF.size
 refine Z.e ?_
 refine Z.e ?_
 refine jQ (jO _ _ _ _ _) (fun h => h rfl) ?_
 refine aW (aW ?_)
 refine aA (fJ ax) (fun w3 U3 => ?_)
 refine aW ?_
 replace ae := ae.ai U3
 replace ag := U3.af ag
 refine aA (fH ag ae List.length_replicate.symm) (fun w4 U4 => ?_)
 refine aW ?_
 refine az (gtr _ _ _ _) (fun h5 => ?_) (fun h5 => ?_)
 refine aQ (bg (bg (bg (aU (aK ?_)))))
 replace hF := ((hF.go0 U2).go0 U3).go0 U4
 exact ⟨_, rfl, .inl ⟨fun hd => by have := hd.2.1; have := hd.2.2.1; omega, rfl, hF⟩⟩
 refine aQ (aW (aW ?_))
 refine ak (gK (by kernel_rfl) _ _ _) ?_
 refine aW ?_
 refine az (gtr _ _ _ _) (fun h7 => ?_) (fun h7 => ?_)
 refine aQ (aK ?_)
 replace hF := ((hF.go0 U2).go0 U3).go0 U4
 exact ⟨_, rfl, .inl ⟨fun hd => by have := hd.2.1; have := hd.2.2.1; omega, rfl, hF⟩⟩
 refine aQ (aH ?_)
 refine aI (Xb (bs := bs)) (fun v9 w9 D9 => ?_)
 obtain ⟨bk, rfl, gbk, aC, U9⟩ := D9
 replace hF := ((hF.go0 U2).go0 U3).go0 U4
 have gBk : B0 ≤ bk := by have := hF.size; omega
 replace dK := ((dK.ai U2).ai U3).ai U4
 have lZ := (dK.lt).ne (b := bk) (by omega)
 replace dL := ((dL.ai U2).ai U3).ai U4
 have l7 := (dL.lt).ne (b := bk) (by omega)
 replace ax := U4.af (U3.af ax)
 have uX : bs ≠ bk := by have := aj ax; omega
 replace ag := U4.af ag
 have OA : bp ≠ bk := by have := aj ag; omega
 replace ae := ae.ai U4
 have FW : ∀ k, aG _ k → k ≠ bk := fun k hk => by have := (Own.ge ae hk).2; omega
 have ww : w.heap.size ≤ bk := by have := hF.size; omega
 refine aA (uJ aC) (fun w10 aX => ?_)
 replace aC := aX.af aC
 refine aI (xZ aC) (fun v11 nT D11 => ?_)
 obtain ⟨t35, N11, bD⟩ := D11
 replace aC := N11
 replace ae := ((ae.ai U9).ai aX).aF bD FW
 replace ae := ae.mono (B' := B0) (by omega)
 have hS := Gs.G5 hz
 have hone := Gs.adZ r c
 have hst0 : (1 : Int) ≤ 1 ∧ (1 : Int) ≤ 3 := by decide
 refine bQ (fun g w' => ∃ (s1 : Gs.gV) (bp1 : Nat) (A1 : Option Addr) (n1 : Nat) (cp1 : Nat) (st1 : Int) (why1 : Int) (tn1 : Int) (last1 : Int) (ins1 : Bool), (Gs.upto ds ds.length) ∧ (Gs.Sw n1 s1) ∧ (Gs.zH r c s1) ∧ (1 ≤ st1 ∧ st1 ≤ 3) ∧ (B0 ≤ bp1) ∧ (Z.h w' bs #[Z.i s1.r0, Z.i s1.c0, Z.i s1.r1, Z.i s1.c1, Z.i s1.wh, Z.p bp1] 89) ∧ (Z.h w' bp1 #[Z.i s1.r, Z.i s1.c, .slice A1 n1 cp1, Z.i s1.cur] 91) ∧ (Own B0 w' 37 5 (.slice A1 n1 cp1) (rows Gs.cv s1.cs)) ∧ (Z.h w' bk #[Z.p bs, Z.i st1, Z.i why1, Z.i tn1, .bool ins1, Z.u last1] 95) ∧ (Rd w' dA (rows Gs.de ds)) ∧ (Gs.pO w' ds) ∧ (aB no w w')) (fun J1 hJ1 => ?_) (fun gJ1 jY hI => ?_)
 refine ak (gK (by kernel_rfl) _ _ _) ?_
 refine eG (fun g w' => ∃ (k : Nat) (s1 : Gs.gV) (bp1 : Nat) (A1 : Option Addr) (n1 : Nat) (cp1 : Nat) (st1 : Int) (why1 : Int) (tn1 : Int) (last1 : Int) (ins1 : Bool), (g 38 = Z.i (k : Int)) ∧ (k ≤ ds.length) ∧ (Gs.upto ds k) ∧ (Gs.Sw n1 s1) ∧ (Gs.zH r c s1) ∧ (1 ≤ st1 ∧ st1 ≤ 3) ∧ (B0 ≤ bp1) ∧ (Z.h w' bs #[Z.i s1.r0, Z.i s1.c0, Z.i s1.r1, Z.i s1.c1, Z.i s1.wh, Z.p bp1] 89) ∧ (Z.h w' bp1 #[Z.i s1.r, Z.i s1.c, .slice A1 n1 cp1, Z.i s1.cur] 91) ∧ (Own B0 w' 37 5 (.slice A1 n1 cp1) (rows Gs.cv s1.cs)) ∧ (Z.h w' bk #[Z.p bs, Z.i st1, Z.i why1, Z.i tn1, .bool ins1, Z.u last1] 95) ∧ (Rd w' dA (rows Gs.de ds)) ∧ (Gs.pO w' ds) ∧ (aB no w w')) (fun g w' => ds.length - (RowKit.intOf (g 38)).toNat) ?_ (fun g2 qW hI => ?_)
 replace dK := ((dK.ai U9).ai aX).aF bD lZ
 replace dL := ((dL.ai U9).ai aX).aF bD l7
 replace ax := bD.au (aX.af (U9.af ax)) uX
 replace ag := bD.au (aX.af (U9.af ag)) OA
 replace hF := ((hF.go0 U9).go0 aX).go1 bD ww
 exact ⟨0, Gs.uM r c, bp, _, _, _, 1, 0, _, 96, false, (by rfl), Nat.zero_le _, (Gs.ael ds), hS, hone, hst0, gBp, ax, ag, ae, aC, dK, dL, hF⟩
 replace dK := ((dK.ai U9).ai aX).aF bD lZ
 replace dL := ((dL.ai U9).ai aX).aF bD l7
 replace ax := bD.au (aX.af (U9.af ax)) uX
 replace hF := ((hF.go0 U9).go0 aX).go1 bD ww
 obtain ⟨k, s1, bp1, A1, n1, cp1, st1, why1, tn1, last1, ins1, g38, hk, hup, hS1, hone1, hst1, gBp1, ax, kV, fE, aC, dK, dL, hF⟩ := hI
 rw [g38]
 refine az (lss _ _ _ _) (fun h12 => ?_) (fun h12 => ?_)
 refine aK ?_
 refine bQ (fun g w' => ∃ (s2 : Gs.gV) (bp2 : Nat) (A2 : Option Addr) (n2 : Nat) (cp2 : Nat) (st2 : Int) (why2 : Int) (tn2 : Int) (last2 : Int) (ins2 : Bool), (Z.h w' bs #[Z.i s2.r0, Z.i s2.c0, Z.i s2.r1, Z.i s2.c1, Z.i s2.wh, Z.p bp2] 89) ∧ (Z.h w' bp2 #[Z.i s2.r, Z.i s2.c, .slice A2 n2 cp2, Z.i s2.cur] 91) ∧ (Own B0 w' 37 5 (.slice A2 n2 cp2) (rows Gs.cv s2.cs)) ∧ (Z.h w' bk #[Z.p bs, Z.i st2, Z.i why2, Z.i tn2, .bool ins2, Z.u last2] 95) ∧ (Gs.upto ds (k + 1)) ∧ (Gs.Sw n2 s2) ∧ (Gs.zH r c s2) ∧ (1 ≤ st2 ∧ st2 ≤ 3) ∧ (B0 ≤ bp2) ∧ (Rd w' dA (rows Gs.de ds)) ∧ (Gs.pO w' ds) ∧ (aB no w w')) (fun J3 hJ3 => ?_) (fun gJ3 KA hI => ?_)
 refine tK Gs.aaM (by kernel_rfl) (by kernel_rfl) dK (by rfl) (by omega) (by omega) (fun Nc tZ => ?_)
 simp only [Int.toNat_natCast] at tZ
 have hdx := hdw.get tZ
 refine Z.n (#[.slice none 0 0, Z.i 0, Z.u 0]) (fun b14 rF e14 dW _ bZ => ?_)
 have uH : bs ≠ b14 := by have := aj ax; omega
 have zL : bp1 ≠ b14 := by have := aj kV; omega
 have vF := fE.apart e14
 have BP : bk ≠ b14 := by have := aj aC; omega
 have zM := dK.apart e14
 have zN := dL.apart e14
 have pM : w.heap.size ≤ b14 := by have := hF.size; omega
 refine Z.t 3 ((Gs.de Nc).toArray) (by (simp [Value.cells, Value.oneCell', Gs.cv, Gs.fv, Gs.ie, Gs.pe, Gs.oe, Gs.cu, Gs.fe, Gs.eY, Gs.ce, Gs.dZ, Gs.re, Gs.de]; done)) dW (fun ut dW _ bT => ?_)
 refine Z.f 0 ?_
 refine Z.l dW ?_
 refine ak (gK (by kernel_rfl) _ _ _) ?_
 refine az (gtr _ _ _ _) (fun h16 => ?_) (fun h16 => ?_)
 refine aK ?_
 replace hF := (hF.go0 bZ).go1 bT pM
 exact ⟨_, rfl, .inl ⟨Gs.uh.no tZ (by omega), rfl, hF⟩⟩
 refine aH ?_
 refine Z.f 0 ?_
 refine Z.l dW ?_
 refine ak (gK (by kernel_rfl) _ _ _) ?_
 refine az (gtr _ _ _ _) (fun h18 => ?_) (fun h18 => ?_)
 refine aK ?_
 refine Z.f 0 ?_
 refine Z.l dW ?_
 replace fE := (fE.ai bZ).aF bT vF
 replace dL := (dL.ai bZ).aF bT zN
 replace ax := bT.au (bZ.af ax) uH
 replace kV := bT.au (bZ.af kV) zL
 replace hF := (hF.go0 bZ).go1 bT pM
 refine aI (xq (b := Nc.b) ax kV fE hS1 (by have := hF.size; omega) (dL.get tZ) rfl hdx.1 hdx.2.1 (by omega) (Gs.G6 (hlde.yN fE) tZ) (Gs.G6 (hlde.ne gBp1) tZ) (Gs.G6 (hlde.ne gBs) tZ)) (fun v19 Ag D19 => ?_)
 have nV := fE
 have aaf := hF.size
 have amD := hF.size
 obtain ⟨rfl, bp54, A54, n54, cp54, ax, xn, qC, hn54, hb54, ho54, eU⟩ := D19
 replace aC := bT.au (bZ.af aC) BP
 replace aC := eU.get aC (fun hs => by rcases hs with (hs | hs) | hs <;> first | (first | exact Own.aT nV aC (by decide) _ hs rfl | (have := Own.ge nV hs; omega)) | (exact absurd hs (by first | omega | exact dQ (by assumption) (by assumption) (by decide))))
 replace dK := (dK.ai bZ).aF bT zM
 replace dK := dK.dO eU ((hldd.yN fE).elim .inl fun h0 => (hldd.ne gBp1).elim .inl fun h1 => ru.elim .inl fun h2 => .inr fun k hk hs => by rcases hs with (hs | hs) | hs <;> first | exact h0 k hk hs | exact h1 k hk hs | exact h2 k hk hs)
 replace dL := dL.dO eU ((hlde.yN fE).elim .inl fun h0 => (hlde.ne gBp1).elim .inl fun h1 => ry.elim .inl fun h2 => .inr fun k hk hs => by rcases hs with (hs | hs) | hs <;> first | exact h0 k hk hs | exact h1 k hk hs | exact h2 k hk hs)
 replace hF := hF.go eU (fun i hi hs => Or.elim hs (fun hs => Or.elim hs (fun hs => absurd hi (by have := (Own.ge fE hs).1; omega)) (fun hs => absurd hi (by have e : i = bp1 := hs; omega))) (fun hs => absurd hi (by have e : i = bs := hs; omega)))
 clear nV
 refine aI (Fb aC hst1) (fun v20 xM D20 => ?_)
 obtain ⟨st, why, tn, last, ins, N20, hst, hq1_55, hq0_55, dF⟩ := D20
 replace qC := qC.aF dF (Own.aT qC (by assumption) (by decide))
 replace xn := dF.au xn (by exact dQ (by assumption) (by assumption) (by decide))
 replace aC := N20
 refine hJ3 _ _ ?_
 replace dK := dK.aF dF lZ
 replace dL := dL.aF dF l7
 replace ax := dF.au ax uX
 replace hF := hF.go1 dF ww
 exact ⟨_, _, _, _, _, _, _, _, _, _, ax, (by exact xn), (by exact qC), aC, (Gs.Fe hup tZ (by omega)), (by (rw [hn54]; exact hS1.run hdx.2.1)), (by exact hone1.run _), (by exact hst), (by exact hb54.elim (fun h => h.symm ▸ gBp1) (fun h => by omega)), dK, dL, hF⟩
 refine aH ?_
 refine Z.f 1 ?_
 refine Z.b 2 _ dW ?_
 replace fE := (fE.ai bZ).aF bT vF
 replace ax := bT.au (bZ.af ax) uH
 replace kV := bT.au (bZ.af kV) zL
 replace aC := bT.au (bZ.af aC) BP
 replace hF := (hF.go0 bZ).go1 bT pM
 refine aI (Oz ax kV fE hS1 (by have := hF.size; omega) aC (k := Nc.k) hdx.2.2 hst1 hone1) (fun v21 Cj D21 => ?_)
 have aqX := hF.size
 have NT := hF.size
 obtain ⟨st59, why59, tn59, last59, ins59, s59, bp59, A59, n59, cp59, hst59, hS59, hone59, aC, ax, Xc, Rq, hb59, ho59, dH⟩ := D21
 replace dK := (dK.ai bZ).aF bT zM
 replace dK := dK.dO dH ((hldd.yN fE).elim .inl fun h0 => (hldd.ne gBp1).elim .inl fun h1 => ru.elim .inl fun h2 => lZ.elim .inl fun h3 => .inr fun k hk hs => by rcases hs with ((hs | hs) | hs) | hs <;> first | exact h0 k hk hs | exact h1 k hk hs | exact h2 k hk hs | exact h3 k hk hs)
 replace dL := (dL.ai bZ).aF bT zN
 replace dL := dL.dO dH ((hlde.yN fE).elim .inl fun h0 => (hlde.ne gBp1).elim .inl fun h1 => ry.elim .inl fun h2 => l7.elim .inl fun h3 => .inr fun k hk hs => by rcases hs with ((hs | hs) | hs) | hs <;> first | exact h0 k hk hs | exact h1 k hk hs | exact h2 k hk hs | exact h3 k hk hs)
 replace hF := hF.go dH (fun i hi hs => Or.elim hs (fun hs => Or.elim hs (fun hs => Or.elim hs (fun hs => absurd hi (by have := (Own.ge fE hs).1; omega)) (fun hs => absurd hi (by have e : i = bp1 := hs; omega))) (fun hs => absurd hi (by have e : i = bs := hs; omega))) (fun hs => absurd hi (by have e : i = bk := hs; omega)))
 refine hJ3 _ _ ?_
 exact ⟨_, _, _, _, _, _, _, _, _, _, ax, (by exact Xc), (by exact Rq), aC, (Gs.Fe hup tZ (by omega)), (by exact hS59), (by exact hone59), (by exact hst59), (by exact hb59.elim (fun h => h.symm ▸ gBp1) (fun h => by omega)), dK, dL, hF⟩
 obtain ⟨s2, bp2, A2, n2, cp2, st2, why2, tn2, last2, ins2, ax, nR, fQ, aC, hup2, hS2, hone2, hst2, gBp2, dK, dL, hF⟩ := hI
 refine ak (dJ _ (by omega)) ?_
 exact ⟨⟨k + 1, s2, bp2, A2, n2, cp2, st2, why2, tn2, last2, ins2, (by rfl), by omega, hup2, hS2, hone2, hst2, gBp2, ax, nR, fQ, aC, dK, dL, hF⟩, cnt_lt (by rfl) rfl (by omega)⟩
 refine aH ?_
 refine hJ1 _ _ ?_
 exact ⟨_, _, _, _, _, _, _, _, _, _, (by rw [show ds.length = k by omega]; exact hup), hS1, hone1, hst1, gBp1, ax, kV, fE, aC, dK, dL, hF⟩
 replace dK := ((dK.ai U9).ai aX).aF bD lZ
 replace dL := ((dL.ai U9).ai aX).aF bD l7
 replace ax := bD.au (aX.af (U9.af ax)) uX
 replace hF := ((hF.go0 U9).go0 aX).go1 bD ww
 obtain ⟨s1, bp1, A1, n1, cp1, st1, why1, tn1, last1, ins1, hup, hS1, hone1, hst1, gBp1, ax, kV, fE, aC, dK, dL, hF⟩ := hI
 exact ⟨_, rfl, .inr ⟨⟨hz, by omega, by omega, Gs.upto_all hup (Nat.le_refl _)⟩, s1, bs, bk, bp1, A1, n1, cp1, st1, why1, tn1, last1, ins1, rfl, hB0 ▸ gBs, hB0 ▸ gBk, hB0 ▸ gBp1, hst1, hS1, hone1, by have := hS1.2.2.2.2.2.1; rw [hone1.1.2.2.1, hone1.1.2.2.2] at this; omega, aC, ax, kV, hB0 ▸ fE, hF⟩⟩
theorem Dh {r c : Int} {ds : List Gs.jU} {dA : Option Addr} {dc : Nat} {w : World} (dK : Rd w dA (rows Gs.de ds)) (dL : Gs.pO w ds) (hdw : Gs.Ah ds) (hdn : ds.length ≤ maxLen) (h : ¬ Gs.uh r c ds) :
    oX 22 #[.agg #[Z.i r, Z.i c], .slice dA ds.length dc] w fun e w' => e = .returned (.tuple #[.pointer none, .pointer none, .bool false]) ∧ aB no w w' := by
 by_cases hz : Gs.aY r c = 0
 exact Em hz
 refine (xu dK dL hdw hdn hz).mono fun e w' D => ?_
 obtain ⟨v, rfl, ⟨_, rfl, hU⟩ | ⟨h2, _⟩⟩ := D
 exact ⟨rfl, hU⟩
 exact absurd h2 h
theorem Di {r c : Int} {ds : List Gs.jU} {dA : Option Addr} {dc : Nat} {w : World} (dK : Rd w dA (rows Gs.de ds)) (dL : Gs.pO w ds) (hdw : Gs.Ah ds) (hdn : ds.length ≤ maxLen) (h : Gs.uh r c ds) :
    oX 22 #[.agg #[Z.i r, Z.i c], .slice dA ds.length dc] w fun e w' => ∃ v, e = .returned v ∧ ∃ (s : Gs.gV) (bs bk bp : Nat) (A : Option Addr) (n cp : Nat) (st why tn last : Int) (ins : Bool), v = .tuple #[Z.p bs, Z.p bk, .bool true] ∧ w.heap.size ≤ bs ∧ w.heap.size ≤ bk ∧ w.heap.size ≤ bp ∧ (1 ≤ st ∧ st ≤ 3) ∧ Gs.Sw n s ∧ Gs.zH r c s ∧ n ≤ 60 ∧ Z.h w' bk #[Z.p bs, Z.i st, Z.i why, Z.i tn, .bool ins, Z.u last] 95 ∧ Z.h w' bs #[Z.i s.r0, Z.i s.c0, Z.i s.r1, Z.i s.c1, Z.i s.wh, Z.p bp] 89 ∧ Z.h w' bp #[Z.i s.r, Z.i s.c, .slice A n cp, Z.i s.cur] 91 ∧ Own w.heap.size w' 37 5 (.slice A n cp) (rows Gs.cv s.cs) ∧ aB no w w' := by
 refine (xu dK dL hdw hdn h.1).mono fun e w' D => ?_
 obtain ⟨v, rfl, ⟨h2, _⟩ | ⟨_, hD⟩⟩ := D
 exact absurd h h2
 exact ⟨v, rfl, hD⟩
theorem acG {b : Int} {w : World} :
    oX 10 #[Z.u b] w fun e w' => e = .returned (.bool (decide (b = 109 ∨ b = 108 ∨ b = 110 ∨ b = 107))) ∧ aB no w w' := by
 refine F10.calls ?_
 unfold F10
 have hF : aB no w w := Fr.refl _ _ _
 refine aA (Ec) (fun w1 U1 => ?_)
 refine az (neS _ _ _ _) (fun h2 => ?_) (fun h2 => ?_)
 refine aV (aV ?_)
 refine ak (jO _ _ _ _ _) ?_
 refine aU ?_
 replace hF := hF.go0 U1
 exact ⟨(congrArg (fun q => Ending.returned (Value.bool q)) (Gs.ajI (by assumption))), hF⟩
 refine aP (aP (aQ ?_))
 replace hF := hF.go0 U1
 exact ⟨(congrArg (fun q => Ending.returned (Value.bool q)) (Gs.ajJ (by assumption))), hF⟩
theorem Qk {c : Gs.Cell} {w : World} :
    oX 142 #[.agg (Gs.cv c).toArray] w fun e w' => e = .returned (.bool (Gs.qN c)) ∧ aB no w w' := by
 refine aa8.calls ?_
 unfold aa8
 have hF : aB no w w := Fr.refl _ _ _
 refine Z.x ((Gs.cv c).toArray) (fun b1 w1 e1 ah _ U1 => ?_)
 refine Z.f 0 ?_
 refine Z.l ah ?_
 refine az (dh _ _ _ _ _) (fun h2 => ?_) (fun h2 => ?_)
 refine aV ?_
 refine Z.f 1 ?_
 refine aV ?_
 refine Z.l ah ?_
 refine aV ?_
 refine ak (BV _) ?_
 refine aU ?_
 replace hF := hF.go0 U1
 exact ⟨(congrArg (fun q => Ending.returned (Value.bool q)) (Gs.ajG (by assumption))), hF⟩
 refine aP (aP (aP (aQ ?_)))
 replace hF := hF.go0 U1
 exact ⟨(congrArg (fun q => Ending.returned (Value.bool q)) (Gs.ajH (by assumption))), hF⟩
theorem IW {c : Gs.Cell} {w : World} :
    oX 69 #[.agg (Gs.cv c).toArray] w fun e w' => ∃ v, e = .returned v ∧ Own w.heap.size w' 5 1 v (vals .u8 (Gs.nK c)) ∧ aB no w w' := by
 refine F69.calls ?_
 unfold F69
 have hF : aB no w w := Fr.refl _ _ _
 refine Z.x ((Gs.cv c).toArray) (fun b1 w1 e1 ah _ U1 => ?_)
 have bY : w.heap.size ≤ b1 := by have := hF.size; omega
 refine Z.f 1 ?_
 refine oJ (kH (by kernel_rfl) ah (by rfl)) (fun h2 => ?_) (fun h2 => ?_)
 refine aV ?_
 refine Z.f 0 ?_
 refine aV ?_
 refine Z.l ah ?_
 refine aV ?_
 refine az (lss _ _ _ _) (fun h3 => ?_) (fun h3 => ?_)
 refine aU (aK ?_)
 refine dG (e := 5) (m := 1) (z := #[Z.u 0]) (by kernel_rfl) (by kernel_rfl) (by rfl) (by decide) (by (simp [eH, splice, fO, Value.cells, Gs.cv, Gs.fv, Gs.ie]; rfl)) (fun b4 w4 e4 eP _ U4 => ?_)
 have pW : b1 ≠ b4 := by have := aj ah; omega
 replace hF := hF.go0 U1
 have nO : w.heap.size ≤ b4 := by have := hF.size; omega
 replace hF := hF.go0 U4
 exact ⟨_, rfl, by rw [Gs.af8 (by assumption) (by assumption)]; exact Own.of_block (n := 2) (xs := [_, _]) (by assumption) (by omega) rfl (by decide), hF⟩
 refine aU (aH ?_)
 refine Z.f 1 ?_
 refine oJ (kH (by kernel_rfl) ah (by rfl)) (fun h6 => ?_) (fun h6 => ?_)
 refine aK ?_
 refine Z.f 0 ?_
 refine Z.l ah ?_
 refine dG (e := 5) (m := 1) (z := #[Z.u 0]) (by kernel_rfl) (by kernel_rfl) (by rfl) (by decide) (by (simp [eH, splice, fO, Value.cells, Gs.cv, Gs.fv, Gs.ie]; rfl)) (fun b7 w7 e7 kT _ U7 => ?_)
 have HY : b1 ≠ b7 := by have := aj ah; omega
 replace hF := hF.go0 U1
 have ul : w.heap.size ≤ b7 := by have := hF.size; omega
 replace hF := hF.go0 U7
 exact ⟨_, rfl, by rw [Gs.af9 (by assumption) (by assumption)]; exact Own.of_block (n := 2) (xs := [_, _]) (by assumption) (by omega) rfl (by decide), hF⟩
 refine aH ?_
 refine Z.f 0 ?_
 refine Z.l ah ?_
 refine eF (sF) (fun w9 U9 h9 => ?_) (fun w9 U9 h9 => ?_)
 refine ak (jE) ?_
 refine aH ?_
 refine Z.f 0 ?_
 replace ah := U9.af ah
 refine Z.l ah ?_
 refine dG (e := 5) (m := 1) (z := #[Z.u 0]) (by kernel_rfl) (by kernel_rfl) (by rfl) (by decide) (by (simp [eH, splice, fO, Value.cells, Gs.cv, Gs.fv, Gs.ie]; rfl)) (fun b10 w10 e10 Px _ aX => ?_)
 have JU : b1 ≠ b10 := by have := aj ah; omega
 replace hF := (hF.go0 U1).go0 U9
 have Va : w.heap.size ≤ b10 := by have := hF.size; omega
 replace hF := hF.go0 aX
 exact ⟨_, rfl, by rw [Gs.WA (by assumption) (by simp_all)]; exact Own.of_block (n := 1) (xs := [_]) (by assumption) (by omega) rfl (by decide), hF⟩
 refine ak (mY) ?_
 refine aK ?_
 refine dG (e := 5) (m := 1) (z := #[Z.u 0]) (by kernel_rfl) (by kernel_rfl) (by rfl) (by decide) (by (simp [eH, splice, fO, Value.cells, Gs.cv, Gs.fv, Gs.ie]; rfl)) (fun b12 w12 e12 bV _ bW => ?_)
 replace ah := U9.af ah
 have Tu : b1 ≠ b12 := by have := aj ah; omega
 replace hF := (hF.go0 U1).go0 U9
 have pR : w.heap.size ≤ b12 := by have := hF.size; omega
 replace hF := hF.go0 bW
 exact ⟨_, rfl, by rw [Gs.Wy (by assumption) (by simp_all)]; exact Own.of_block (n := 1) (xs := [_]) (by assumption) (by omega) rfl (by decide), hF⟩
 refine aP (aP (aP (aQ (aH ?_))))
 refine Z.f 1 ?_
 refine oJ (kH (by kernel_rfl) ah (by rfl)) (fun h14 => ?_) (fun h14 => ?_)
 refine aK ?_
 refine Z.f 0 ?_
 refine Z.l ah ?_
 refine dG (e := 5) (m := 1) (z := #[Z.u 0]) (by kernel_rfl) (by kernel_rfl) (by rfl) (by decide) (by (simp [eH, splice, fO, Value.cells, Gs.cv, Gs.fv, Gs.ie]; rfl)) (fun b15 ut e15 iG _ bT => ?_)
 have apU : b1 ≠ b15 := by have := aj ah; omega
 replace hF := hF.go0 U1
 have yj : w.heap.size ≤ b15 := by have := hF.size; omega
 replace hF := hF.go0 bT
 exact absurd (Eq.trans (Eq.symm (show c.ge = true by assumption)) (show c.ge = false by assumption)) (by decide)
 refine aH ?_
 refine Z.f 0 ?_
 refine Z.l ah ?_
 refine eF (sF) (fun vW di h17 => ?_) (fun vW di h17 => ?_)
 refine ak (jE) ?_
 refine aH ?_
 refine Z.f 0 ?_
 replace ah := di.af ah
 refine Z.l ah ?_
 refine dG (e := 5) (m := 1) (z := #[Z.u 0]) (by kernel_rfl) (by kernel_rfl) (by rfl) (by decide) (by (simp [eH, splice, fO, Value.cells, Gs.cv, Gs.fv, Gs.ie]; rfl)) (fun b18 xY e18 aaE _ dR => ?_)
 have adi : b1 ≠ b18 := by have := aj ah; omega
 replace hF := (hF.go0 U1).go0 di
 have alr : w.heap.size ≤ b18 := by have := hF.size; omega
 replace hF := hF.go0 dR
 exact ⟨_, rfl, by rw [Gs.WA (by assumption) (by simp_all)]; exact Own.of_block (n := 1) (xs := [_]) (by assumption) (by omega) rfl (by decide), hF⟩
 refine ak (mY) ?_
 refine aK ?_
 refine dG (e := 5) (m := 1) (z := #[Z.u 0]) (by kernel_rfl) (by kernel_rfl) (by rfl) (by decide) (by (simp [eH, splice, fO, Value.cells, Gs.cv, Gs.fv, Gs.ie]; rfl)) (fun b20 xM e20 Bq _ dF => ?_)
 replace ah := di.af ah
 have apV : b1 ≠ b20 := by have := aj ah; omega
 replace hF := (hF.go0 U1).go0 di
 have La : w.heap.size ≤ b20 := by have := hF.size; omega
 replace hF := hF.go0 dF
 exact ⟨_, rfl, by rw [Gs.Wy (by assumption) (by simp_all)]; exact Own.of_block (n := 1) (xs := [_]) (by assumption) (by omega) rfl (by decide), hF⟩
theorem Yx {b : Int} {w : World} (hb : 0 ≤ b ∧ b ≤ 255) :
    oX 68 #[Z.u b] w fun e w' => e = .returned (Z.u (Gs.jV b)) ∧ aB no w w' := by
 refine F68.calls ?_
 unfold F68
 have hF : aB no w w := Fr.refl _ _ _
 refine ak (kC (by kernel_rfl) (by kernel_rfl) (by omega)) ?_
 refine aA (Eb (v := b)) (fun w1 U1 => ?_)
 replace hF := hF.go0 U1
 exact ⟨rfl, hF⟩
theorem IX {r c cur : Int} {A : Option Addr} {n cp bp B0 : Nat} {cs : List Gs.Cell} {w : World} (ag : Z.h w bp #[Z.i r, Z.i c, .slice A n cp, Z.i cur] 91) (ae : Own B0 w 37 5 (.slice A n cp) (rows Gs.cv cs)) (hn : n = cs.length) {i : Int} :
    oX 67 #[Z.p bp, Z.i i] w fun e w' => ∃ v, e = .returned v ∧ ∃ A' c', v = .slice A' 2 c' ∧ Rd w' A' (vals .u8 [(Gs.mV i n).1, (Gs.mV i n).2.1]) ∧ wC A' (vals .u8 [(Gs.mV i n).1, (Gs.mV i n).2.1]) w.heap.size ∧ aB no w w' := by
 refine F67.calls ?_
 unfold F67
 have hF : aB no w w := Fr.refl _ _ _
 refine aA (fH ag ae hn) (fun w1 U1 => ?_)
 refine aA (Uk (p := i) (n := n)) (fun w2 U2 => ?_)
 refine Z.e ?_
 refine Z.e ?_
 refine Z.n (#[Z.u 0, Z.u 0]) (fun b3 w3 e3 bG _ U3 => ?_)
 replace hF := (hF.go0 U1).go0 U2
 have jH : w.heap.size ≤ b3 := by have := hF.size; omega
 refine Z.t 2 (#[Z.u (Gs.mV i n).1, Z.u (Gs.mV i n).2.1]) (by (simp [Value.cells, Value.oneCell', Gs.cv, Gs.fv, Gs.ie]; done)) bG (fun w4 bG _ U4 => ?_)
 refine ak (agc (n := 2) (m := 1) (by kernel_rfl)) ?_
 replace hF := (hF.go0 U3).go1 U4 jH
 exact ⟨_, rfl, _, _, rfl, Rd.mP (xs := vals .u8 [(Gs.mV i n).1, (Gs.mV i n).2.1]) bG, .inr (fun k ⟨a, ea, ek⟩ => by cases ea; subst ek; show _ ≤ _; omega), hF⟩
theorem acH {r c cur : Int} {A : Option Addr} {n cp bp B0 : Nat} {cs : List Gs.Cell} {w : World} (ag : Z.h w bp #[Z.i r, Z.i c, .slice A n cp, Z.i cur] 91) (ae : Own B0 w 37 5 (.slice A n cp) (rows Gs.cv cs)) (hn : n = cs.length) (hb : n ≤ 4096)  :
    oX 99 #[Z.p bp] w fun e w' => ∃ v, e = .returned v ∧ Own w.heap.size w' 5 1 v (vals .u8 (Gs.mZ cs (Gs.jA cs))) ∧ aB no w w' := by
 refine F99.calls ?_
 unfold F99
 subst hn
 have xC := aj ag
 have lJ := Own.lt ae
 have hF : aB no w w := Fr.refl _ _ _
 refine bQ (fun g w' => ∃ (v3 : Value), (g 3 = v3) ∧ (Own w.heap.size w' 5 1 v3 (vals .u8 (Gs.mZ cs (Gs.jA cs)))) ∧ (aB no w w')) (fun J1 hJ1 => ?_) (fun gJ1 jY hI => ?_)
 refine aA (fH ag ae rfl) (fun w1 U1 => ?_)
 refine eG (fun g w' => ∃ (k : Nat) (v3 : Value), (g 8 = Z.i (k : Int)) ∧ (k ≤ cs.length) ∧ (g 3 = v3) ∧ (Own w.heap.size w' 5 1 v3 (vals .u8 (Gs.mZ cs ((Gs.jA cs).take k)))) ∧ (Z.h w' bp #[Z.i r, Z.i c, .slice A cs.length cp, Z.i cur] 91) ∧ (Own B0 w' 37 5 (.slice A cs.length cp) (rows Gs.cv cs)) ∧ (aB no w w')) (fun g w' => cs.length - (RowKit.intOf (g 8)).toNat) ?_ (fun g2 qW hI => ?_)
 replace ae := ae.ai U1
 replace ag := U1.af ag
 replace hF := hF.go0 U1
 exact ⟨0, _, (by rfl), Nat.zero_le _, rfl, (Own.nil _ _ _ _), ag, ae, hF⟩
 replace ae := ae.ai U1
 replace ag := U1.af ag
 replace hF := hF.go0 U1
 obtain ⟨k, v3, g8, hk, g3, bM, ag, ae, hF⟩ := hI
 rw [g8]
 rw [g3]
 have hfl := Gs.IB cs ((Gs.jA cs).take k)
 rw [List.length_take, Gs.Bg] at hfl
 refine az (lss _ _ _ _) (fun h2 => ?_) (fun h2 => ?_)
 refine aK ?_
 refine bQ (fun g w' => ∃ (v3 : Value), (g 3 = v3) ∧ (Own w.heap.size w' 5 1 v3 (vals .u8 (Gs.mZ cs ((Gs.jA cs).take (k + 1))))) ∧ (Z.h w' bp #[Z.i r, Z.i c, .slice A cs.length cp, Z.i cur] 91) ∧ (Own B0 w' 37 5 (.slice A cs.length cp) (rows Gs.cv cs)) ∧ (aB no w w')) (fun J3 hJ3 => ?_) (fun gJ3 KA hI => ?_)
 refine aA (gy ag ae rfl (i := (k : Int))) (fun w3 U3 => ?_)
 refine Z.n ((Gs.cv Gs.zc).toArray) (fun b4 w4 e4 eP _ U4 => ?_)
 replace bM := bM.ai U3
 have IY := bM.apart e4
 replace ag := U3.af ag
 have qF : bp ≠ b4 := by have := aj ag; omega
 replace ae := ae.ai U3
 have mW := ae.apart e4
 replace hF := hF.go0 U3
 have nO : w.heap.size ≤ b4 := by have := hF.size; omega
 refine Z.t 5 ((Gs.cv (Gs.bH cs k)).toArray) (by (simp [Value.cells, Value.oneCell', Gs.cv, Gs.fv, Gs.ie]; done)) eP (fun w5 eP _ U5 => ?_)
 refine Z.b 5 ((Gs.cv (Gs.bH cs k)).toArray) eP ?_
 refine eF (Qk) (fun w6 U6 h6 => ?_) (fun w6 U6 h6 => ?_)
 refine ak (jE) ?_
 refine aH ?_
 refine hJ3 _ _ ?_
 replace bM := ((bM.ai U4).aF U5 IY).ai U6
 replace ae := ((ae.ai U4).aF U5 mW).ai U6
 replace ag := U6.af (U5.au (U4.af ag) qF)
 replace hF := ((hF.go0 U4).go1 U5 nO).go0 U6
 exact ⟨_, (by exact g3), (by (rw [← Gs.ajK (by omega) (by assumption)]; exact bM)), ag, ae, hF⟩
 refine ak (mY) ?_
 refine aK ?_
 replace eP := U6.af eP
 refine Z.b 5 ((Gs.cv (Gs.bH cs k)).toArray) eP ?_
 refine aI (IW) (fun v7 w7 D7 => ?_)
 obtain ⟨Dj, U7⟩ := D7
 obtain ⟨A19, c19, rfl, _⟩ := Dj.bK
 replace bM := ((bM.ai U4).aF U5 IY).ai U6
 have Ry : ∀ k, aG _ k → ¬ aG _ k := fun k hk hs => by have := (Own.ge bM hk).2; have := (Own.ge Dj hs).1; omega
 replace ag := U6.af (U5.au (U4.af ag) qF)
 have akw : ¬ aG _ bp := fun h => by have := (Own.ge Dj h).1; have := aj ag; omega
 replace ae := ((ae.ai U4).aF U5 mW).ai U6
 have aiq : ∀ k, aG _ k → ¬ aG _ k := fun k hk hs => by have := (Own.ge ae hk).2; have := (Own.ge Dj hs).1; omega
 have akx : ¬ aG _ b4 := fun h => by have := (Own.ge Dj h).1; have := aj eP; omega
 replace hF := ((hF.go0 U4).go1 U5 nO).go0 U6
 replace Dj := Dj.mono (B' := w.heap.size) hF.size
 have hbl := Gs.BK (Gs.bH cs k)
 replace bM := bM.ai U7
 replace hF := hF.go0 U7
 refine jG (e := 5) (size := 1) (bytes := 1) (by kernel_rfl) bM Dj.xW (by (simp [vals_length]; done)) rG (by simp only [vals_length, List.length_take, List.length_cons, List.length_nil, List.length_append, List.length_map, List.length_range]; omega) (by have := hF.size; omega) (fun v8 w8 N8 hA8 U8 => ?_)
 have gB := bM
 have apW := yc (S' := w7) (fun k hk hs => Ry k hs hk) Dj hA8
 replace eP := U7.af eP
 have nc8_b4 : ∀ k, aG v8 k → k ≠ b4 := fun k hk e => Or.elim (hA8 k hk) (fun h => IY k h e) (fun h => by have := aj eP; omega)
 replace bM := N8
 replace ag := U7.af ag
 replace ag := U8.get ag (fun h => by (have := Own.ge gB h; omega))
 replace ae := ae.ai U7
 replace ae := ae.dO U8 (fun k hk hs => by have := lJ k hk; have := (Own.ge gB hs).1; omega)
 replace hF := hF.go U8 (fun i h hs => by (have := (Own.ge gB hs).1; omega))
 clear gB
 refine hJ3 _ _ ?_
 exact ⟨_, (by rfl), (by (rw [← Gs.ajL (by omega) (by assumption), ← ui]; exact bM)), ag, ae, hF⟩
 obtain ⟨v3, g3, bM, ag, ae, hF⟩ := hI
 refine ak (dJ _ (by omega)) ?_
 exact ⟨⟨k + 1, _, (by rfl), by omega, (by exact g3), bM, ag, ae, hF⟩, cnt_lt (by rfl) rfl (by omega)⟩
 refine aH ?_
 refine hJ1 _ _ ?_
 exact ⟨_, (by exact g3), (by rw [List.take_of_length_le (by rw [Gs.Bg]; omega)] at bM; exact bM), hF⟩
 obtain ⟨v3, g3, bM, hF⟩ := hI
 rw [g3]
 exact ⟨_, rfl, bM, hF⟩
set_option maxHeartbeats 2000000 in
theorem Yy {r c cur : Int} {A : Option Addr} {n cp bp B0 : Nat} {cs : List Gs.Cell} {w : World} (ag : Z.h w bp #[Z.i r, Z.i c, .slice A n cp, Z.i cur] 91) (ae : Own B0 w 37 5 (.slice A n cp) (rows Gs.cv cs)) (hn : n = cs.length) (hN : Gs.aY r c = n) (hb : n ≤ 4096) (hcw : Gs.je cs)  :
    oX 98 #[Z.p bp] w fun e w' => ∃ v, e = .returned v ∧ Own w.heap.size w' 5 1 v (vals .u8 (Gs.xR cs (Gs.dm cs).length)) ∧ aB no w w' := by
 refine F98.calls ?_
 unfold F98
 subst hn
 have xC := aj ag
 have lJ := Own.lt ae
 have hF : aB no w w := Fr.refl _ _ _
 refine Z.x _ (fun b1 w1 e1 ah _ U1 => ?_)
 have jJ : bp ≠ b1 := by have := aj ag; omega
 have gZ := ae.apart e1
 have bY : w.heap.size ≤ b1 := by have := hF.size; omega
 refine Z.n (#[.slice none 0 0]) (fun b2 w2 e2 ay _ U2 => ?_)
 replace ag := U1.af ag
 have fF : bp ≠ b2 := by have := aj ag; omega
 replace ae := ae.ai U1
 have dN := ae.apart e2
 have mf : b1 ≠ b2 := by have := aj ah; omega
 replace hF := hF.go0 U1
 have fD : w.heap.size ≤ b2 := by have := hF.size; omega
 refine bQ (fun g w' => ∃ (D2 : Nat) (v3 : Value), (g 1000000 = mkV D2 undef) ∧ (w.heap.size ≤ D2) ∧ (w'.heap[D2]? = some (.deferred (some []))) ∧ (Z.h w' b2 #[v3] 24) ∧ (Own w.heap.size w' 5 1 v3 (vals .u8 (Gs.xR cs (Gs.dm cs).length))) ∧ (aB no w w')) (fun J1 hJ1 => ?_) (fun gJ1 jY hI => ?_)
 replace ah := U2.af ah
 refine Z.l ah ?_
 replace ae := ae.ai U2
 replace ag := U2.af ag
 refine aI (Bf ag ae rfl) (fun v3 w3 D3 => ?_)
 obtain ⟨b1_8, rfl, g1_8, dD, U3⟩ := D3
 have aoG : bp ≠ b1_8 := by have := aj ag; omega
 have akR : ∀ k, aG _ k → k ≠ b1_8 := fun k hk => by have := (Own.ge ae hk).2; omega
 have aoH : b1 ≠ b1_8 := by have := aj ah; omega
 have Ql : b2 ≠ b1_8 := by have := aj ay; omega
 replace hF := hF.go0 U2
 have ge_b1_8 : w.heap.size ≤ b1_8 := by have := hF.size; omega
 refine wL (by kernel_rfl) (fun w4 l2 D2 Rdy2 Bsy2 Dn2 y2 eD el bz bC lp1 lp2 lp3 sz4 U4 hY => ?_)
 have lp2_2 := lp2
 replace ag := U3.af ag
 have VD : bp ≠ D2 := by have := aj ag; omega
 have iL : bp ≠ l2 := by have := aj ag; omega
 replace ae := ae.ai U3
 have ug : ∀ k, aG _ k → k ≠ D2 := fun k hk => by have := (Own.ge ae hk).2; omega
 have fB : ∀ k, aG _ k → k ≠ l2 := fun k hk => by have := (Own.ge ae hk).2; omega
 replace ah := U3.af ah
 have VE : b1 ≠ D2 := by have := aj ah; omega
 have iR : b1 ≠ l2 := by have := aj ah; omega
 replace ay := U3.af ay
 have uQ : b2 ≠ D2 := by have := aj ay; omega
 have gU : b2 ≠ l2 := by have := aj ay; omega
 have aoI : b1_8 ≠ D2 := by have := aj dD; omega
 have Dk : b1_8 ≠ l2 := by have := aj dD; omega
 replace hF := hF.go0 U3
 have oK : w.heap.size ≤ D2 := by have := hF.size; omega
 have jR : w.heap.size ≤ l2 := by have := hF.size; omega
 have fK : D2 ≠ l2 := by omega
 replace ae := ae.ai U4
 replace ag := U4.af ag
 replace ah := U4.af ah
 replace ay := U4.af ay
 replace dD := U4.af dD
 replace hF := hF.go0 U4
 refine Calls.mono (yz (b1 := b1_8) (csF := (fun _ => cs)) (J := (fun (k : Nat) (w' : World) => ∃ (v3 : Value), (Z.h w' b2 #[v3] 24) ∧ (Own w.heap.size w' 5 1 v3 (vals .u8 (Gs.xR cs k))) ∧ (Z.h w' b1 #[Z.p bp] 33) ∧ (Z.h w' bp #[Z.i r, Z.i c, .slice A cs.length cp, Z.i cur] 91) ∧ (Own B0 w' 37 5 (.slice A cs.length cp) (rows Gs.cv cs)) ∧ (Z.h w' b1_8 #[Z.p bp] 33) ∧ (w'.heap[D2]? = some (.deferred (some []))) ∧ (w'.heap[l2]? = some Rdy2) ∧ (aB no w w'))) (X := (fun _ => False)) (fun _ w' hJ => by obtain ⟨v3, ay, bM, ah, ag, ae, dD, bz, bC, hF⟩ := hJ; exact ⟨dD, ag, ae⟩) (fun _ w' w'' hJ U' => by obtain ⟨v3, ay, bM, ah, ag, ae, dD, bz, bC, hF⟩ := hJ; exact ⟨v3, U'.af ay, bM.ai U', U'.af ah, U'.af ag, ae.ai U', U'.af dD, U'.af bz, U'.af bC, hF.go0 U'⟩) (fun _ _ h _ => h.elim) (fun _ => rfl) (fun _ => hcw) (fun _ _ => rfl) hN hb ?_ ?_) ?_
 intro k qW xk hx hI
 obtain ⟨v3, ay, bM, ah, ag, ae, dD, bz, bC, hF⟩ := hI
 have hk := (List.getElem?_eq_some_iff.1 hx).1
 have hsl := Gs.vz cs
 have hol := Gs.WB hb k
 have hxm1 := Gs.uT.1 (List.mem_of_getElem? hx)
 have hpl := Gs.EJ cs.length (Gs.lG cs xk)
 refine hY [.agg (Gs.fv (Gs.lG cs xk)).toArray] _ _ rfl bC ?_
 simp only [List.getD_cons_zero, List.getD_cons_succ]
 refine Z.n ((Gs.fv Gs.zf).toArray) (fun b5 w5 e5 cO _ U5 => ?_)
 have nU : b2 ≠ b5 := by have := aj ay; omega
 have Dl := bM.apart e5
 have ik : b1 ≠ b5 := by have := aj ah; omega
 have jT : bp ≠ b5 := by have := aj ag; omega
 have jl := ae.apart e5
 have acI : b1_8 ≠ b5 := by have := aj dD; omega
 have DX : D2 ≠ b5 := by have := aj bz; omega
 have DY : l2 ≠ b5 := by have := aj bC; omega
 have iM : w.heap.size ≤ b5 := by have := hF.size; omega
 refine Z.t 3 ((Gs.fv (Gs.lG cs xk)).toArray) (by (simp [Value.cells, Value.oneCell', Gs.cv, Gs.fv, Gs.ie]; done)) cO (fun w6 cO _ U6 => ?_)
 replace bC := U6.au (U5.af bC) DY
 refine zu bC (fun w7 bC _ U7 => ?_)
 replace bM := (bM.ai U5).aF U6 Dl
 replace ae := (ae.ai U5).aF U6 jl
 replace ay := U6.au (U5.af ay) nU
 replace ah := U6.au (U5.af ah) ik
 replace ag := U6.au (U5.af ag) jT
 replace dD := U6.au (U5.af dD) acI
 replace bz := U6.au (U5.af bz) DX
 replace hF := (hF.go0 U5).go1 U6 iM
 replace bM := bM.aF U7 (Own.jd bM (by assumption) (by assumption))
 refine Z.f 2 ?_
 replace cO := U7.au cO (Ne.symm DY)
 refine Z.l cO ?_
 refine eF (EL (Gs.abf hcw xk)) (fun w8 U8 h8 => ?_) (fun w8 U8 h8 => ?_)
 simp only [Z.d, Z.c] at h8
 refine ak (jE) ?_
 refine aH ?_
 replace ay := U8.af (U7.au ay gU)
 have gB_h_b2 := aj ay
 replace bM := bM.ai U8
 have gB_own3 := Own.lt bM
 replace ah := U8.af (U7.au ah iR)
 have gB_h_b1 := aj ah
 replace ag := U8.af (U7.au ag iL)
 have gB_h_bp := aj ag
 replace ae := (ae.aF U7 fB).ai U8
 have gB_own_p := Own.lt ae
 replace dD := U8.af (U7.au dD Dk)
 have gB_h_b1_8 := aj dD
 replace bz := U8.af (U7.au bz fK)
 have gB_h_D2 := aj bz
 replace bC := U8.af bC
 have gB_h_l2 := aj bC
 replace cO := U8.af cO
 have gB_h_b5 := aj cO
 have oG_own3 := bM
 have gN_h_b2 : ¬ aG (v3) b2 := (fun h => Own.aT bM ay (by decide) _ h rfl)
 have gN_h_b1 : ¬ aG (v3) b1 := (fun h => Own.aT bM ah (by decide) _ h rfl)
 have gN_h_bp : ¬ aG (v3) bp := (fun h => Own.aT bM ag (by decide) _ h rfl)
 have gN_h_b1_8 : ¬ aG (v3) b1_8 := (fun h => Own.aT bM dD (by decide) _ h rfl)
 have gN_h_D2 : ¬ aG (v3) D2 := (fun h => Own.lV bM bz _ h rfl)
 replace hF := (hF.go1 U7 jR).go0 U8
 have gN_h_l2 : ¬ aG (v3) l2 := (fun h => Own.jd bM bC (by assumption) _ h rfl)
 have gN_h_b5 : ¬ aG (v3) b5 := (fun h => Dl _ h rfl)
 refine dV (S := fun k => aG (v3) k ∨ w8.heap.size ≤ k) (fun w9 U9 => ?_)
 have zz9 := U9.size
 replace ay := U9.af ay
 refine bI (fun w' hw' => by have ay := hw'.get ay (fun hs => Or.elim (show aG _ _ ∨ _ ≤ _ from hs) gN_h_b2 (fun h => by have := gB_h_b2; omega)); exact (kH (by kernel_rfl) ay (by rfl))) ?_
 replace ah := U9.af ah
 refine bI (fun w' hw' => by have ah := hw'.get ah (fun hs => Or.elim (show aG _ _ ∨ _ ≤ _ from hs) gN_h_b1 (fun h => by have := gB_h_b1; omega)); exact (kH (by kernel_rfl) ah (by rfl))) ?_
 refine bI (fun w' hw' => by have ah := hw'.get ah (fun hs => Or.elim (show aG _ _ ∨ _ ≤ _ from hs) gN_h_b1 (fun h => by have := gB_h_b1; omega)); exact (kH (by kernel_rfl) ah (by rfl))) ?_
 refine Z.g 0 ?_
 replace cO := U9.af cO
 refine bI (fun w' hw' => by have cO := hw'.get cO (fun hs => Or.elim (show aG _ _ ∨ _ ≤ _ from hs) gN_h_b5 (fun h => by have := gB_h_b5; omega)); exact (kH (by kernel_rfl) cO (by rfl))) ?_
 refine aJ (fun w10 aX => ?_)
 have zz10 := aX.size
 refine jy ?_
 refine dG (e := 5) (m := 1) (z := #[Z.u 0]) (by kernel_rfl) (by kernel_rfl) (by rfl) (by decide) (by (simp [eH, splice, fO, Value.cells, Gs.cv, Gs.fv, Gs.ie]; rfl)) (fun b11 nT e11 kz _ bD => ?_)
 replace ay := aX.af ay
 have aeD : b2 ≠ b11 := by have := aj ay; omega
 replace bM := (bM.ai U9).ai aX
 have Ny := bM.apart e11
 replace ah := aX.af ah
 have JP : b1 ≠ b11 := by have := aj ah; omega
 replace ag := aX.af (U9.af ag)
 have apX : bp ≠ b11 := by have := aj ag; omega
 replace ae := (ae.ai U9).ai aX
 have amY := ae.apart e11
 replace dD := aX.af (U9.af dD)
 have an2 : b1_8 ≠ b11 := by have := aj dD; omega
 replace bz := aX.af (U9.af bz)
 have apY : D2 ≠ b11 := by have := aj bz; omega
 replace bC := aX.af (U9.af bC)
 have apZ : l2 ≠ b11 := by have := aj bC; omega
 replace cO := aX.af cO
 have ap0 : b5 ≠ b11 := by have := aj cO; omega
 replace hF := (hF.go0 U9).go0 aX
 have UU : w.heap.size ≤ b11 := by have := hF.size; omega
 have zz11 := bD.size
 refine ⟨bD.any, ?_⟩
 refine aJ (fun w12 bW => ?_)
 have zz12 := bW.size
 refine jy ?_
 replace bM := (bM.ai bD).ai bW
 replace hF := (hF.go0 bD).go0 bW
 replace kz := bW.af kz
 refine jG (e := 5) (size := 1) (bytes := 1) (by kernel_rfl) bM (Rd.mP kz) rfl (by (simp [Value.oneCell']; done)) (by simp only [vals_length, List.length_take, List.length_cons, List.length_nil, List.length_append, List.length_map, List.length_range]; omega) (by have := hF.size; omega) (fun v13 ve N13 hA13 dC => ?_)
 have gB := bM
 replace cO := bW.af (bD.af cO)
 have Zu : ∀ k, aG v13 k → k ≠ b5 := fun k hk e => Or.elim (hA13 k hk) (fun h => Dl k h e) (fun h => by have := aj cO; omega)
 have Xr : ∀ k, aG v13 k → k ≠ b11 := fun k hk e => Or.elim (hA13 k hk) (fun h => Ny k h e) (fun h => by have := aj kz; omega)
 replace ay := bW.af (bD.af ay)
 replace ay := dC.get ay (fun h => Own.aT gB ay (by decide) _ h rfl)
 replace bM := N13
 replace ah := bW.af (bD.af ah)
 replace ah := dC.get ah (fun h => Own.aT gB ah (by decide) _ h rfl)
 replace ag := bW.af (bD.af ag)
 replace ag := dC.get ag (fun h => by (have := Own.ge gB h; omega))
 replace ae := (ae.ai bD).ai bW
 replace ae := ae.dO dC (fun k hk hs => by have := lJ k hk; have := (Own.ge gB hs).1; omega)
 replace dD := bW.af (bD.af dD)
 replace dD := dC.get dD (fun h => Own.aT gB dD (by decide) _ h rfl)
 replace bz := bW.af (bD.af bz)
 replace bz := dC.get bz (fun h => Own.lV gB bz _ h rfl)
 replace bC := bW.af (bD.af bC)
 replace bC := dC.get bC (fun h => Own.jd gB bC (by assumption) _ h rfl)
 replace cO := dC.get cO (fun h => Dl _ h rfl)
 replace kz := dC.get kz (fun h => Ny _ h rfl)
 replace hF := hF.go dC (fun i h hs => by (have := (Own.ge gB hs).1; omega))
 have zz13 := dC.size
 clear gB
 refine ⟨dC.mono (Nat.le_refl _) (fun i _ h => .inl h), ?_⟩
 refine gQ (fun w' hw' => by have ag := hw'.get ag (fun hs => Or.elim (show aG _ _ ∨ _ ≤ _ from hs) gN_h_bp (fun h => by have := gB_h_bp; omega)); have ae := ae.dO hw' (fun k hk hs => Or.elim (show aG _ _ ∨ _ ≤ _ from hs) (fun h => by have := lJ k hk; have := (Own.ge oG_own3 h).1; omega) (fun h => by have := gB_own_p k hk; omega)); exact kP ag ae rfl) ?_
 refine gQ (fun w' hw' => nI (i := (xk : Int)) (j := 1)) ?_
 rw [hN, Gs.uf (by omega)]
 refine aJ (fun w16 bU => ?_)
 have zz16 := bU.size
 replace ae := ae.ai bU
 replace ag := bU.af ag
 refine aI (IX ag ae rfl (i := ((xk : Int) + 1) % (cs.length : Int))) (fun v17 vW D17 => ?_)
 obtain ⟨A23, c23, rfl, uB, gA23, di⟩ := D17
 replace ay := bU.af ay
 have acJ := gA23.ne (aj ay)
 replace bM := bM.ai bU
 have Lc : _ ∨ ∀ k, _ → ¬ aG _ k := gA23.imp_right fun h k hk hs => by have := h k hk; have := (Own.ge bM hs).2; omega
 replace ah := bU.af ah
 have aoJ := gA23.ne (aj ah)
 have aoK := gA23.ne (aj ag)
 have akS : _ ∨ ∀ k, _ → ¬ aG _ k := gA23.imp_right fun h k hk hs => by have := h k hk; have := (Own.ge ae hs).2; omega
 replace dD := bU.af dD
 have amZ := gA23.ne (aj dD)
 replace bz := bU.af bz
 have aoL := gA23.ne (aj bz)
 replace bC := bU.af bC
 have aoM := gA23.ne (aj bC)
 replace cO := bU.af cO
 have aoN := gA23.ne (aj cO)
 replace kz := bU.af kz
 have an3 := gA23.ne (aj kz)
 have zz17 := di.size
 refine aJ (fun xY dR => ?_)
 have zz18 := dR.size
 replace hF := ((hF.go0 bU).go0 di).go0 dR
 replace bM := (bM.ai di).ai dR
 replace uB := uB.ai dR
 refine jG (e := 5) (size := 1) (bytes := 1) (by kernel_rfl) bM uB (by (simp [vals_length]; done)) rG (by simp only [vals_length, List.length_take, List.length_cons, List.length_nil, List.length_append, List.length_map, List.length_range]; omega) (by have := hF.size; omega) (fun v19 Ag N19 hA19 eU => ?_)
 have gB := bM
 have ap1 := acj (S' := xY) Lc uB hA19
 replace cO := dR.af (di.af cO)
 have nc19_b5 : ∀ k, aG v19 k → k ≠ b5 := fun k hk e => Or.elim (hA19 k hk) (fun h => Zu k h e) (fun h => by have := aj cO; omega)
 replace kz := dR.af (di.af kz)
 have aq1 : ∀ k, aG v19 k → k ≠ b11 := fun k hk e => Or.elim (hA19 k hk) (fun h => Xr k h e) (fun h => by have := aj kz; omega)
 replace ay := dR.af (di.af ay)
 replace ay := eU.get ay (fun h => Own.aT gB ay (by decide) _ h rfl)
 replace bM := N19
 replace ah := dR.af (di.af ah)
 replace ah := eU.get ah (fun h => Own.aT gB ah (by decide) _ h rfl)
 replace ag := dR.af (di.af ag)
 replace ag := eU.get ag (fun h => by (have := Own.ge gB h; omega))
 replace ae := (ae.ai di).ai dR
 replace ae := ae.dO eU (fun k hk hs => by have := lJ k hk; have := (Own.ge gB hs).1; omega)
 replace dD := dR.af (di.af dD)
 replace dD := eU.get dD (fun h => Own.aT gB dD (by decide) _ h rfl)
 replace bz := dR.af (di.af bz)
 replace bz := eU.get bz (fun h => Own.lV gB bz _ h rfl)
 replace bC := dR.af (di.af bC)
 replace bC := eU.get bC (fun h => Own.jd gB bC (by assumption) _ h rfl)
 replace cO := eU.get cO (fun h => Zu _ h rfl)
 replace kz := eU.get kz (fun h => Xr _ h rfl)
 replace uB := uB.dO eU Lc
 replace hF := hF.go eU (fun i h hs => by (have := (Own.ge gB hs).1; omega))
 have zz19 := eU.size
 clear gB
 refine aJ (fun xM dF => ?_)
 have zz20 := dF.size
 replace bM := bM.ai dF
 replace ay := dF.af ay
 refine nH (by kernel_rfl) (Own.FI bM).1 (Own.FI bM).2 ay (Nat.le_of_ble_eq_true rfl) (by (simp [uN]; rfl)) (fun Cj ay _ dH => ?_)
 replace ae := ae.ai dF
 replace uB := uB.ai dF
 replace ah := dF.af ah
 replace ag := dF.af ag
 replace dD := dF.af dD
 replace bz := dF.af bz
 replace bC := dF.af bC
 replace cO := dF.af cO
 replace kz := dF.af kz
 replace hF := hF.go0 dF
 replace bM := bM.aF dH (Own.aT bM (by assumption) (by decide))
 have zz21 := dH.size
 refine aJ (fun Gq eQ => ?_)
 have zz22 := eQ.size
 replace ah := eQ.af (dH.au ah mf)
 refine Z.l ah ?_
 replace cO := eQ.af (dH.au cO (Ne.symm nU))
 refine Z.b 3 ((Gs.fv (Gs.lG cs xk)).toArray) cO ?_
 replace ae := (ae.aF dH dN).ai eQ
 replace ag := eQ.af (dH.au ag fF)
 refine aI (Aw ag ae rfl (f := (Gs.lG cs xk))) (fun v23 Jl D23 => ?_)
 obtain ⟨b1_27, b2_27, rfl, g1_27, g2_27, ja, jb, jD⟩ := D23
 replace ay := eQ.af ay
 have Yz : b2 ≠ b1_27 := by have := aj ay; omega
 replace bM := bM.ai eQ
 have akT : ∀ k, aG _ k → k ≠ b1_27 := fun k hk => by have := (Own.ge bM hk).2; omega
 have an4 : b1 ≠ b1_27 := by have := aj ah; omega
 have an5 : bp ≠ b1_27 := by have := aj ag; omega
 have aky : ∀ k, aG _ k → k ≠ b1_27 := fun k hk => by have := (Own.ge ae hk).2; omega
 replace dD := eQ.af (dH.au dD (Ne.symm Ql))
 have akU : b1_8 ≠ b1_27 := by have := aj dD; omega
 replace bz := eQ.af (dH.au bz (Ne.symm uQ))
 have an6 : D2 ≠ b1_27 := by have := aj bz; omega
 replace bC := eQ.af (dH.au bC (Ne.symm gU))
 have an7 : l2 ≠ b1_27 := by have := aj bC; omega
 have an8 : b5 ≠ b1_27 := by have := aj cO; omega
 replace kz := eQ.af (dH.au kz (Ne.symm aeD))
 have am0 : b11 ≠ b1_27 := by have := aj kz; omega
 replace uB := (uB.aF dH acJ).ai eQ
 have akV := (uB.lt).ne (b := b1_27) (by omega)
 replace hF := (hF.go1 dH fD).go0 eQ
 have aq2 : w.heap.size ≤ b1_27 := by have := hF.size; omega
 have YA : b2 ≠ b2_27 := by have := aj ay; omega
 have akW : ∀ k, aG _ k → k ≠ b2_27 := fun k hk => by have := (Own.ge bM hk).2; omega
 have an9 : b1 ≠ b2_27 := by have := aj ah; omega
 have aoa : bp ≠ b2_27 := by have := aj ag; omega
 have akz : ∀ k, aG _ k → k ≠ b2_27 := fun k hk => by have := (Own.ge ae hk).2; omega
 have akX : b1_8 ≠ b2_27 := by have := aj dD; omega
 have aob : D2 ≠ b2_27 := by have := aj bz; omega
 have aoc : l2 ≠ b2_27 := by have := aj bC; omega
 have aod : b5 ≠ b2_27 := by have := aj cO; omega
 have am1 : b11 ≠ b2_27 := by have := aj kz; omega
 have akY := (uB.lt).ne (b := b2_27) (by omega)
 have aq3 : w.heap.size ≤ b2_27 := by have := hF.size; omega
 have zz23 := jD.size
 replace bC := jD.af bC
 refine agI (by kernel_rfl) bC lp2_2 (fun UN l3 Rdy3 Bsy3 Dn3 y3 el ny lp1_3 lp2_3 lp3_3 sz24 kD hY => ?_)
 replace ay := jD.af ay
 have Es : b2 ≠ l3 := by have := aj ay; omega
 replace bM := bM.ai jD
 have aoO : ∀ k, aG _ k → k ≠ l3 := fun k hk => by have := (Own.ge bM hk).2; omega
 replace ah := jD.af ah
 have IZ : b1 ≠ l3 := by have := aj ah; omega
 replace ag := jD.af ag
 have I4 : bp ≠ l3 := by have := aj ag; omega
 replace ae := ae.ai jD
 have Bv : ∀ k, aG _ k → k ≠ l3 := fun k hk => by have := (Own.ge ae hk).2; omega
 replace dD := jD.af dD
 have Dp : b1_8 ≠ l3 := by have := aj dD; omega
 replace bz := jD.af bz
 have I5 : D2 ≠ l3 := by have := aj bz; omega
 have I7 : l2 ≠ l3 := by have := aj bC; omega
 replace cO := jD.af cO
 have aq4 : b5 ≠ l3 := by have := aj cO; omega
 replace kz := jD.af kz
 have ap2 : b11 ≠ l3 := by have := aj kz; omega
 replace uB := uB.ai jD
 have aoP := (uB.lt).ne (b := l3) (by omega)
 have FZ : b1_27 ≠ l3 := by have := aj ja; omega
 have Gf : b2_27 ≠ l3 := by have := aj jb; omega
 replace hF := hF.go0 jD
 have UD : w.heap.size ≤ l3 := by have := hF.size; omega
 have zz24 := kD.size
 replace bM := bM.ai kD
 replace ae := ae.ai kD
 replace ay := kD.af ay
 replace ah := kD.af ah
 replace ag := kD.af ag
 replace dD := kD.af dD
 replace bz := kD.af bz
 replace bC := kD.af bC
 replace ja := kD.af ja
 replace jb := kD.af jb
 replace hF := hF.go0 kD
 refine Calls.mono (DR (b1 := b1_27) (b2 := b2_27) (f := (Gs.lG cs xk)) (J := (fun (m : Nat) (w' : World) => ∃ (v3 : Value), (Z.h w' b2 #[v3] 24) ∧ (Own w.heap.size w' 5 1 v3 (vals .u8 (Gs.xR cs k ++ Gs.EY cs (Gs.lG cs xk) ++ Gs.mZ cs ((Gs.iP cs.length (Gs.lG cs xk)).take m)))) ∧ (Z.h w' b1 #[Z.p bp] 33) ∧ (Z.h w' bp #[Z.i r, Z.i c, .slice A cs.length cp, Z.i cur] 91) ∧ (Own B0 w' 37 5 (.slice A cs.length cp) (rows Gs.cv cs)) ∧ (Z.h w' b1_8 #[Z.p bp] 33) ∧ (Z.h w' b1_27 #[Z.p bp] 33) ∧ (Z.h w' b2_27 ((Gs.fv (Gs.lG cs xk)).toArray) 173) ∧ (w'.heap[l3]? = some Rdy3) ∧ (w'.heap[l2]? = some Bsy2) ∧ (w'.heap[D2]? = some (.deferred (some []))) ∧ (aB no w w'))) (X := (fun _ => False)) (fun _ w' hJ => by obtain ⟨v3, ay, bM, ah, ag, ae, dD, ja, jb, ny, bC, bz, hF⟩ := hJ; exact ⟨ja, jb, ag, ae⟩) (fun _ w' w'' hJ U' => by obtain ⟨v3, ay, bM, ah, ag, ae, dD, ja, jb, ny, bC, bz, hF⟩ := hJ; exact ⟨v3, U'.af ay, bM.ai U', U'.af ah, U'.af ag, ae.ai U', U'.af dD, U'.af ja, U'.af jb, U'.af ny, U'.af bC, U'.af bz, hF.go0 U'⟩) (fun _ _ h _ => h.elim) (fun _ h => h.elim) rfl hN hb ?_ ?_) ?_
 intro m wl3 xm hxm hI
 obtain ⟨v3, ay, bM, ah, ag, ae, dD, ja, jb, ny, bC, bz, hF⟩ := hI
 have hkm := (List.getElem?_eq_some_iff.1 hxm).1
 have hfl := Gs.IB cs ((Gs.iP cs.length (Gs.lG cs xk)).take m)
 rw [List.length_take] at hfl
 have hhl : (Gs.EY cs (Gs.lG cs xk)).length = 3 := by rw [Gs.Y9]; rfl
 refine hY [Z.i xm] _ _ rfl ny ?_
 simp only [List.getD_cons_zero, List.getD_cons_succ]
 refine zu ny (fun JC ny _ iq => ?_)
 replace bM := bM.aF iq (Own.jd bM (by assumption) (by assumption))
 have zz25 := iq.size
 replace ah := iq.au ah IZ
 refine Z.l ah ?_
 replace ae := ae.aF iq Bv
 replace ag := iq.au ag I4
 refine aA (gy ag ae rfl (i := xm)) (fun Pg jm => ?_)
 have zz26 := jm.size
 refine Z.n ((Gs.cv Gs.zc).toArray) (fun b27 MV e27 wz _ iw => ?_)
 replace ay := jm.af (iq.au ay Es)
 have Tv : b2 ≠ b27 := by have := aj ay; omega
 replace bM := bM.ai jm
 have Gg := bM.apart e27
 replace ah := jm.af ah
 have Tz : b1 ≠ b27 := by have := aj ah; omega
 replace ag := jm.af ag
 have TA : bp ≠ b27 := by have := aj ag; omega
 replace ae := ae.ai jm
 have Ld := ae.apart e27
 replace dD := jm.af (iq.au dD Dp)
 have Nz : b1_8 ≠ b27 := by have := aj dD; omega
 replace ja := jm.af (iq.au ja FZ)
 have Le : b1_27 ≠ b27 := by have := aj ja; omega
 replace jb := jm.af (iq.au jb Gf)
 have Lh : b2_27 ≠ b27 := by have := aj jb; omega
 replace ny := jm.af ny
 have TB : l3 ≠ b27 := by have := aj ny; omega
 replace bC := jm.af (iq.au bC I7)
 have TC : l2 ≠ b27 := by have := aj bC; omega
 replace bz := jm.af (iq.au bz I5)
 have TD : D2 ≠ b27 := by have := aj bz; omega
 replace hF := (hF.go1 iq UD).go0 jm
 have aeE : w.heap.size ≤ b27 := by have := hF.size; omega
 have zz27 := iw.size
 refine Z.t 5 ((Gs.cv (Gs.bH cs xm)).toArray) (by (simp [Value.cells, Value.oneCell', Gs.cv, Gs.fv, Gs.ie]; done)) wz (fun Vw wz _ jC => ?_)
 have zz28 := jC.size
 refine Z.b 5 ((Gs.cv (Gs.bH cs xm)).toArray) wz ?_
 refine eF (Qk) (fun Ve kK h29 => ?_) (fun Ve kK h29 => ?_)
 have zz29 := kK.size
 refine ak (jE) ?_
 refine aH ?_
 replace ny := kK.af (jC.au (iw.af ny) TB)
 refine uO ny (fun w30 ny _ qX => ?_)
 replace bM := ((bM.ai iw).aF jC Gg).ai kK
 replace ae := ((ae.ai iw).aF jC Ld).ai kK
 replace ay := kK.af (jC.au (iw.af ay) Tv)
 replace ah := kK.af (jC.au (iw.af ah) Tz)
 replace ag := kK.af (jC.au (iw.af ag) TA)
 replace dD := kK.af (jC.au (iw.af dD) Nz)
 replace ja := kK.af (jC.au (iw.af ja) Le)
 replace jb := kK.af (jC.au (iw.af jb) Lh)
 replace bC := kK.af (jC.au (iw.af bC) TC)
 replace bz := kK.af (jC.au (iw.af bz) TD)
 replace hF := ((hF.go0 iw).go1 jC aeE).go0 kK
 replace bM := bM.aF qX (Own.jd bM (by assumption) (by assumption))
 have zz30 := qX.size
 replace ae := ae.aF qX Bv
 replace ay := qX.au ay Es
 replace ah := qX.au ah IZ
 replace ag := qX.au ag I4
 replace dD := qX.au dD Dp
 replace ja := qX.au ja FZ
 replace jb := qX.au jb Gf
 replace bC := qX.au bC I7
 replace bz := qX.au bz I5
 replace hF := hF.go1 qX UD
 exact ⟨_, ay, (by (rw [← Gs.adS hxm (by assumption)]; exact bM)), ah, ag, ae, dD, ja, jb, ny, bC, bz, hF⟩
 have zz29 := kK.size
 refine ak (mY) ?_
 refine aK ?_
 refine dV (S := aG (v3)) (fun w31 qh => ?_)
 replace bM := (((bM.ai iw).aF jC Gg).ai kK).ai qh
 replace ay := qh.af (kK.af (jC.au (iw.af ay) Tv))
 refine bI (fun w' hw' => by have ay := hw'.get ay (fun h => Own.aT bM ay (by decide) _ h rfl); exact (kH (by kernel_rfl) ay (by rfl))) ?_
 replace wz := qh.af (kK.af wz)
 refine bI (fun w' hw' => by have wz := (Fr.jq hw').af wz; exact (CE (n := 5) (cs' := (Gs.cv (Gs.bH cs xm)).toArray) (by kernel_rfl) wz (Nat.le_of_ble_eq_true rfl) (by rfl))) ?_
 refine aJ (fun w32 mO => ?_)
 refine jy ?_
 refine aI (IW) (fun v33 w33 D33 => ?_)
 obtain ⟨qR, uI⟩ := D33
 obtain ⟨A37, c37, rfl, _⟩ := qR.bK
 replace ay := mO.af ay
 have air : ¬ aG _ b2 := fun h => by have := (Own.ge qR h).1; have := aj ay; omega
 replace bM := bM.ai mO
 have Qm : ∀ k, aG _ k → ¬ aG _ k := fun k hk hs => by have := (Own.ge bM hk).2; have := (Own.ge qR hs).1; omega
 replace ah := mO.af (qh.af (kK.af (jC.au (iw.af ah) Tz)))
 have ais : ¬ aG _ b1 := fun h => by have := (Own.ge qR h).1; have := aj ah; omega
 replace ag := mO.af (qh.af (kK.af (jC.au (iw.af ag) TA)))
 have ait : ¬ aG _ bp := fun h => by have := (Own.ge qR h).1; have := aj ag; omega
 replace ae := ((((ae.ai iw).aF jC Ld).ai kK).ai qh).ai mO
 have agJ : ∀ k, aG _ k → ¬ aG _ k := fun k hk hs => by have := (Own.ge ae hk).2; have := (Own.ge qR hs).1; omega
 replace dD := mO.af (qh.af (kK.af (jC.au (iw.af dD) Nz)))
 have afd : ¬ aG _ b1_8 := fun h => by have := (Own.ge qR h).1; have := aj dD; omega
 replace ja := mO.af (qh.af (kK.af (jC.au (iw.af ja) Le)))
 have aeF : ¬ aG _ b1_27 := fun h => by have := (Own.ge qR h).1; have := aj ja; omega
 replace jb := mO.af (qh.af (kK.af (jC.au (iw.af jb) Lh)))
 have aeG : ¬ aG _ b2_27 := fun h => by have := (Own.ge qR h).1; have := aj jb; omega
 replace ny := mO.af (qh.af (kK.af (jC.au (iw.af ny) TB)))
 have aiu : ¬ aG _ l3 := fun h => by have := (Own.ge qR h).1; have := aj ny; omega
 replace bC := mO.af (qh.af (kK.af (jC.au (iw.af bC) TC)))
 have aiv : ¬ aG _ l2 := fun h => by have := (Own.ge qR h).1; have := aj bC; omega
 replace bz := mO.af (qh.af (kK.af (jC.au (iw.af bz) TD)))
 have aiw : ¬ aG _ D2 := fun h => by have := (Own.ge qR h).1; have := aj bz; omega
 replace wz := mO.af wz
 have agK : ¬ aG _ b27 := fun h => by have := (Own.ge qR h).1; have := aj wz; omega
 replace hF := ((((hF.go0 iw).go1 jC aeE).go0 kK).go0 qh).go0 mO
 replace qR := qR.mono (B' := w.heap.size) hF.size
 have hbl := Gs.BK (Gs.bH cs xm)
 refine ⟨uI.any, ?_⟩
 refine aJ (fun YJ pI => ?_)
 replace bM := (bM.ai uI).ai pI
 replace hF := (hF.go0 uI).go0 pI
 replace qR := qR.ai pI
 refine jG (e := 5) (size := 1) (bytes := 1) (by kernel_rfl) bM qR.xW (by (simp [vals_length]; done)) rG (by simp only [vals_length, List.length_take, List.length_cons, List.length_nil, List.length_append, List.length_map, List.length_range]; omega) (by have := hF.size; omega) (fun v35 w35 N35 hA35 qA => ?_)
 have gB := bM
 have aoQ := yc (S' := YJ) (fun k hk hs => Qm k hs hk) qR hA35
 replace wz := pI.af (uI.af wz)
 have aq5 : ∀ k, aG v35 k → k ≠ b27 := fun k hk e => Or.elim (hA35 k hk) (fun h => Gg k h e) (fun h => by have := aj wz; omega)
 replace ay := pI.af (uI.af ay)
 replace ay := qA.get ay (fun h => Own.aT gB ay (by decide) _ h rfl)
 replace bM := N35
 replace ah := pI.af (uI.af ah)
 replace ah := qA.get ah (fun h => Own.aT gB ah (by decide) _ h rfl)
 replace ag := pI.af (uI.af ag)
 replace ag := qA.get ag (fun h => by (have := Own.ge gB h; omega))
 replace ae := (ae.ai uI).ai pI
 replace ae := ae.dO qA (fun k hk hs => by have := lJ k hk; have := (Own.ge gB hs).1; omega)
 replace dD := pI.af (uI.af dD)
 replace dD := qA.get dD (fun h => Own.aT gB dD (by decide) _ h rfl)
 replace ja := pI.af (uI.af ja)
 replace ja := qA.get ja (fun h => Own.aT gB ja (by decide) _ h rfl)
 replace jb := pI.af (uI.af jb)
 replace jb := qA.get jb (fun h => Own.aT gB jb (by decide) _ h rfl)
 replace ny := pI.af (uI.af ny)
 replace bC := pI.af (uI.af bC)
 replace bz := pI.af (uI.af bz)
 replace ny := qA.get ny (fun h => Own.jd gB ny (by assumption) _ h rfl)
 replace bC := qA.get bC (fun h => Own.jd gB bC (by assumption) _ h rfl)
 replace bz := qA.get bz (fun h => Own.lV gB bz _ h rfl)
 replace hF := hF.go qA (fun i h hs => by (have := (Own.ge gB hs).1; omega))
 clear gB
 refine aJ (fun w36 pJ => ?_)
 replace bM := bM.ai pJ
 replace ay := pJ.af ay
 refine nH (by kernel_rfl) (Own.FI bM).1 (Own.FI bM).2 ay (Nat.le_of_ble_eq_true rfl) (by (simp [uN]; rfl)) (fun w37 ay _ ql => ?_)
 replace ae := ae.ai pJ
 replace ah := pJ.af ah
 replace ag := pJ.af ag
 replace dD := pJ.af dD
 replace ja := pJ.af ja
 replace jb := pJ.af jb
 replace ny := pJ.af ny
 replace bC := pJ.af bC
 replace bz := pJ.af bz
 replace hF := hF.go0 pJ
 replace bM := bM.aF ql (Own.aT bM (by assumption) (by decide))
 refine aJ (fun w38 xO => ?_)
 replace ny := xO.af (ql.au ny (Ne.symm Es))
 refine uO ny (fun w39 ny _ vX => ?_)
 replace ae := (ae.aF ql dN).ai xO
 replace ah := xO.af (ql.au ah mf)
 replace ag := xO.af (ql.au ag fF)
 replace dD := xO.af (ql.au dD (Ne.symm Ql))
 replace ja := xO.af (ql.au ja (Ne.symm Yz))
 replace jb := xO.af (ql.au jb (Ne.symm YA))
 replace bC := xO.af (ql.au bC (Ne.symm gU))
 replace bz := xO.af (ql.au bz (Ne.symm uQ))
 replace hF := (hF.go1 ql fD).go0 xO
 replace bM := bM.ai xO
 replace ay := xO.af ay
 replace bM := bM.aF vX (Own.jd bM (by assumption) (by assumption))
 replace ae := ae.aF vX Bv
 replace ay := vX.au ay Es
 replace ah := vX.au ah IZ
 replace ag := vX.au ag I4
 replace dD := vX.au dD Dp
 replace ja := vX.au ja FZ
 replace jb := vX.au jb Gf
 replace bC := vX.au bC I7
 replace bz := vX.au bz I5
 replace hF := hF.go1 vX UD
 exact ⟨_, ay, (by (rw [← Gs.adT hxm (by assumption), ← List.append_assoc, ← ui]; exact bM)), ah, ag, ae, dD, ja, jb, ny, bC, bz, hF⟩
 exact ⟨_, ay, (by rw [Gs.Y9, List.take_zero, show Gs.mZ cs [] = [] from rfl, List.append_nil, ← List.append_assoc, ← ui, ← ui]; exact bM), ah, ag, ae, dD, ja, jb, ny, bC, bz, hF⟩
 rintro e wE3 ⟨hv, hI | hI⟩
 obtain ⟨v3, ay, bM, ah, ag, ae, dD, ja, jb, ny, bC, bz, hF⟩ := hI
 refine ⟨hv, .inl ⟨ny, fun w40 _ nY => ?_⟩⟩
 replace bM := bM.aF nY (Own.jd bM (by assumption) (by assumption))
 replace bC := nY.au bC I7
 refine uO bC (fun w41 bC _ Jo => ?_)
 replace ae := ae.aF nY Bv
 replace ay := nY.au ay Es
 replace ah := nY.au ah IZ
 replace ag := nY.au ag I4
 replace dD := nY.au dD Dp
 replace bz := nY.au bz I5
 replace hF := hF.go1 nY UD
 replace bM := bM.aF Jo (Own.jd bM (by assumption) (by assumption))
 replace ae := ae.aF Jo fB
 replace ay := Jo.au ay gU
 replace ah := Jo.au ah iR
 replace ag := Jo.au ag iL
 replace dD := Jo.au dD Dk
 replace bz := Jo.au bz fK
 replace hF := hF.go1 Jo jR
 exact ⟨_, ay, (by (rw [← Gs.al7 hx (by assumption), ← List.append_assoc]; rw [List.take_of_length_le (Nat.le_refl _)] at bM; exact bM)), ah, ag, ae, dD, bz, bC, hF⟩
 exact hI.elim
 simp only [Z.d, Z.c] at h8
 refine ak (mY) ?_
 refine aK ?_
 replace bC := U8.af bC
 refine uO bC (fun w42 bC _ rY => ?_)
 replace ae := (ae.aF U7 fB).ai U8
 replace ay := U8.af (U7.au ay gU)
 replace ah := U8.af (U7.au ah iR)
 replace ag := U8.af (U7.au ag iL)
 replace dD := U8.af (U7.au dD Dk)
 replace bz := U8.af (U7.au bz fK)
 replace hF := (hF.go1 U7 jR).go0 U8
 replace bM := bM.ai U8
 replace bM := bM.aF rY (Own.jd bM (by assumption) (by assumption))
 have zz42 := rY.size
 replace ae := ae.aF rY fB
 replace ay := rY.au ay gU
 replace ah := rY.au ah iR
 replace ag := rY.au ag iL
 replace dD := rY.au dD Dk
 replace bz := rY.au bz fK
 replace hF := hF.go1 rY jR
 exact ⟨_, ay, (by (rw [← Gs.al8 hx (by assumption)]; exact bM)), ah, ag, ae, dD, bz, bC, hF⟩
 exact ⟨_, ay, (Own.nil _ _ _ _), ah, ag, ae, dD, bz, bC, hF⟩
 rintro e wE2 ⟨hv, hI | hI⟩
 obtain ⟨v3, ay, bM, ah, ag, ae, dD, bz, bC, hF⟩ := hI
 refine ⟨hv, .inl ⟨bC, fun w43 _ pK => ?_⟩⟩
 replace bM := bM.aF pK (Own.jd bM (by assumption) (by assumption))
 have zz43 := pK.size
 refine hJ1 _ _ ?_
 replace ay := pK.au ay gU
 replace bz := pK.au bz fK
 replace hF := hF.go1 pK jR
 exact ⟨_, _, (by rfl), oK, bz, ay, bM, hF⟩
 exact hI.elim
 replace hF := hF.go0 U2
 obtain ⟨D2, v3, g1000000, oK, bz, ay, bM, hF⟩ := hI
 rw [g1000000]
 refine Z.l ay ?_
 refine leave1 bz (fun w45 _ BO => ?_)
 replace ae := ae.ai U2
 replace ag := U2.af ag
 replace ah := U2.af ah
 replace bM := bM.aF BO (Own.lV bM (by assumption))
 have zz45 := BO.size
 replace hF := hF.go1 BO oK
 exact ⟨_, rfl, bM, hF⟩
theorem agL {r c cur : Int} {A : Option Addr} {n cp bp B0 : Nat} {cs : List Gs.Cell} {w : World} (ag : Z.h w bp #[Z.i r, Z.i c, .slice A n cp, Z.i cur] 91) (ae : Own B0 w 37 5 (.slice A n cp) (rows Gs.cv cs)) (hn : n = cs.length) {x : Int} (hp : 0 < n) (hN : Gs.aY r c = n) (hb : n ≤ 4096) (hcw : Gs.je cs)  :
    oX 55 #[Z.p bp, Z.u x] w fun e w' => ∃ v, e = .returned v ∧ Own w.heap.size w' 5 1 v (vals .u8 (Gs.allB cs cur x)) ∧ aB no w w' := by
 refine F55.calls ?_
 unfold F55
 subst hn
 have hwl := Gs.IB cs (Gs.jA cs)
 rw [Gs.Bg] at hwl
 have hoe := Gs.adU hb
 have hF : aB no w w := Fr.refl _ _ _
 refine dG (e := 5) (m := 1) (z := #[Z.u 0]) (by kernel_rfl) (by kernel_rfl) (by rfl) (by decide) (by (simp [eH, splice, fO, Value.cells, Gs.cv, Gs.fv, Gs.ie]; rfl)) (fun b1 w1 e1 ah _ U1 => ?_)
 have jJ : bp ≠ b1 := by have := aj ag; omega
 have gZ := ae.apart e1
 have bY : w.heap.size ≤ b1 := by have := hF.size; omega
 have zz1 := U1.size
 have kQ := Own.of_block (B := w.heap.size) (n := 1) (xs := vals .u8 [x]) (size := 1) ah bY rfl (by decide)
 replace ae := ae.ai U1
 replace ag := U1.af ag
 refine aA (ed ag ae rfl) (fun w2 U2 => ?_)
 have zz2 := U2.size
 replace ae := ae.ai U2
 replace ag := U2.af ag
 refine aI (IX ag ae rfl (i := cur)) (fun v3 w3 D3 => ?_)
 obtain ⟨A11, c11, rfl, Xh, gA11, U3⟩ := D3
 have zz3 := U3.size
 replace hF := ((hF.go0 U1).go0 U2).go0 U3
 replace kQ := (kQ.ai U2).ai U3
 refine jG (e := 5) (size := 1) (bytes := 1) (by kernel_rfl) kQ Xh (by (simp [vals_length]; done)) rG (by simp only [vals_length, List.length_take, List.length_cons, List.length_nil, List.length_append, List.length_map, List.length_range]; omega) (by have := hF.size; omega) (fun v4 w4 N4 hA4 U4 => ?_)
 have o6 := kQ
 replace ag := U3.af ag
 replace ag := U4.get ag (fun hs => by cases hs; exact jJ rfl)
 replace ae := ae.ai U3
 replace ae := ae.dO U4 (fun k hk hs => by cases hs; exact gZ _ hk rfl)
 replace kQ := N4
 replace hF := hF.go U4 (fun i h hs => by (have := (Own.ge o6 hs).1; omega))
 have zz4 := U4.size
 clear o6
 refine eF (xQ ag ae rfl hN hb) (fun w5 U5 h5 => ?_) (fun w5 U5 h5 => ?_)
 have zz5 := U5.size
 simp only [Z.d, Z.c] at h5
 refine aK ?_
 replace ae := ae.ai U5
 replace ag := U5.af ag
 refine aI (Yy ag ae rfl hN hb hcw) (fun v6 w6 D6 => ?_)
 obtain ⟨yA, U6⟩ := D6
 obtain ⟨A17, c17, rfl, _⟩ := yA.bK
 replace hF := hF.go0 U5
 replace yA := yA.mono (B' := w.heap.size) hF.size
 have zz6 := U6.size
 replace kQ := (kQ.ai U5).ai U6
 replace hF := hF.go0 U6
 refine jG (e := 5) (size := 1) (bytes := 1) (by kernel_rfl) kQ yA.xW (by (simp [vals_length]; done)) rG (by simp only [vals_length, List.length_take, List.length_cons, List.length_nil, List.length_append, List.length_map, List.length_range]; omega) (by have := hF.size; omega) (fun v7 w7 N7 hA7 U7 => ?_)
 have o6 := kQ
 replace hF := hF.go U7 (fun i h hs => by (have := (Own.ge o6 hs).1; omega))
 have zz7 := U7.size
 clear o6
 exact ⟨_, rfl, by rw [← Gs.al9 (Gs.aot hp (by assumption))]; assumption, hF⟩
 have zz5 := U5.size
 simp only [Z.d, Z.c] at h5
 refine aH ?_
 replace ae := ae.ai U5
 replace ag := U5.af ag
 refine aI (acH ag ae rfl hb) (fun v9 w9 D9 => ?_)
 obtain ⟨UE, U9⟩ := D9
 obtain ⟨A21, c21, rfl, _⟩ := UE.bK
 replace hF := hF.go0 U5
 replace UE := UE.mono (B' := w.heap.size) hF.size
 have zz9 := U9.size
 replace kQ := (kQ.ai U5).ai U9
 replace hF := hF.go0 U9
 refine jG (e := 5) (size := 1) (bytes := 1) (by kernel_rfl) kQ UE.xW (by (simp [vals_length]; done)) rG (by simp only [vals_length, List.length_take, List.length_cons, List.length_nil, List.length_append, List.length_map, List.length_range]; omega) (by have := hF.size; omega) (fun v10 w10 N10 hA10 aX => ?_)
 have o6 := kQ
 replace hF := hF.go aX (fun i h hs => by (have := (Own.ge o6 hs).1; omega))
 have zz10 := aX.size
 clear o6
 exact ⟨_, rfl, by rw [← Gs.ama (Gs.aou hp (by assumption))]; assumption, hF⟩
theorem TE {r c cur : Int} {A : Option Addr} {n cp bp B0 : Nat} {cs : List Gs.Cell} {w : World} (ag : Z.h w bp #[Z.i r, Z.i c, .slice A n cp, Z.i cur] 91) (ae : Own B0 w 37 5 (.slice A n cp) (rows Gs.cv cs)) (hn : n = cs.length) {x : Int} (hp : 0 < n) (hN : Gs.aY r c = n) (hb : n ≤ 4096) (hcw : Gs.je cs)  :
    oX 20 #[Z.p bp, Z.u x] w fun e w' => ∃ v, e = .returned v ∧ Own w.heap.size w' 5 1 v (vals .u8 (Gs.readB cs cur x)) ∧ aB no w w' := by
 refine F20.calls ?_
 unfold F20
 have xC := aj ag
 have lJ := Own.lt ae
 have hF : aB no w w := Fr.refl _ _ _
 refine eF (acG) (fun w1 U1 h1 => ?_) (fun w1 U1 h1 => ?_)
 have zz1 := U1.size
 simp only [Z.d, Z.c] at h1
 refine aK ?_
 refine dG (e := 5) (m := 1) (z := #[Z.u 0]) (by kernel_rfl) (by kernel_rfl) (by rfl) (by decide) (by (simp [eH, splice, fO, Value.cells, Gs.cv, Gs.fv, Gs.ie]; rfl)) (fun b2 w2 e2 ay _ U2 => ?_)
 replace ag := U1.af ag
 have fF : bp ≠ b2 := by have := aj ag; omega
 replace ae := ae.ai U1
 have dN := ae.apart e2
 replace hF := hF.go0 U1
 have fD : w.heap.size ≤ b2 := by have := hF.size; omega
 have zz2 := U2.size
 replace hF := hF.go0 U2
 exact ⟨_, rfl, by rw [Gs.Za (by assumption)]; exact Own.of_block (n := 1) (xs := [_]) (by assumption) (by omega) rfl (by decide), hF⟩
 have zz1 := U1.size
 simp only [Z.d, Z.c] at h1
 refine aH ?_
 replace ae := ae.ai U1
 replace ag := U1.af ag
 refine aI (agL ag ae hn hp hN hb hcw) (fun v4 w4 D4 => ?_)
 obtain ⟨MC, U4⟩ := D4
 obtain ⟨A11, c11, rfl, _⟩ := MC.bK
 have akA : ¬ aG _ bp := fun h => by have := (Own.ge MC h).1; have := aj ag; omega
 have aix : ∀ k, aG _ k → ¬ aG _ k := fun k hk hs => by have := (Own.ge ae hk).2; have := (Own.ge MC hs).1; omega
 replace hF := hF.go0 U1
 replace MC := MC.mono (B' := w.heap.size) hF.size
 have zz4 := U4.size
 replace hF := hF.go0 U4
 exact ⟨_, rfl, by rw [Gs.ajM (by assumption)]; exact MC, hF⟩
theorem NC {r c cur : Int} {A : Option Addr} {n cp bp B0 : Nat} {cs : List Gs.Cell} {w : World} (ag : Z.h w bp #[Z.i r, Z.i c, .slice A n cp, Z.i cur] 91) (ae : Own B0 w 37 5 (.slice A n cp) (rows Gs.cv cs)) (hn : n = cs.length) {x : Int} (hb : n ≤ 4096) (hcw : Gs.je cs)  :
    oX 32 #[Z.p bp, Z.u x] w fun e w' => ∃ v, e = .returned v ∧ Own w.heap.size w' 5 1 v (vals .u8 (Gs.vT cs cur x)) ∧ aB no w w' := by
 refine F32.calls ?_
 unfold F32
 subst hn
 have xC := aj ag
 have lJ := Own.lt ae
 have hF : aB no w w := Fr.refl _ _ _
 refine dG (e := 5) (m := 1) (z := #[Z.u 0]) (by kernel_rfl) (by kernel_rfl) (by rfl) (by decide) (by (simp [eH, splice, fO, Value.cells, Gs.cv, Gs.fv, Gs.ie]; rfl)) (fun b1 w1 e1 ah _ U1 => ?_)
 have jJ : bp ≠ b1 := by have := aj ag; omega
 have gZ := ae.apart e1
 have bY : w.heap.size ≤ b1 := by have := hF.size; omega
 replace ae := ae.ai U1
 replace ag := U1.af ag
 replace hF := hF.go0 U1
 have zz1 := U1.size
 have kQ := Own.of_block (B := w.heap.size) (n := 1) (xs := vals .u8 [x]) (size := 1) ah bY rfl (by decide)
 have akB := (show ¬ aG (.slice (some ⟨b1, 0, none⟩) 1 1) bp from (fun hs => by cases hs; exact jJ rfl))
 have aiy := (show ∀ k, aG _ k → ¬ aG (.slice (some ⟨b1, 0, none⟩) 1 1) k from (fun k hk hs => by cases hs; exact gZ _ hk rfl))
 refine aA (ed ag ae rfl) (fun w2 U2 => ?_)
 replace ae := ae.ai U2
 replace kQ := kQ.ai U2
 replace ag := U2.af ag
 replace hF := hF.go0 U2
 have zz2 := U2.size
 refine aI (IX ag ae rfl (i := cur)) (fun v3 w3 D3 => ?_)
 obtain ⟨A13, c13, rfl, Rz, gA13, U3⟩ := D3
 have aoR := gA13.ne (aj ag)
 have akZ : _ ∨ ∀ k, _ → ¬ aG _ k := gA13.imp_right fun h k hk hs => by have := h k hk; have := (Own.ge ae hs).2; omega
 have G8 : _ ∨ ∀ k, _ → ¬ aG _ k := gA13.imp_right fun h k hk hs => by have := h k hk; have := (Own.ge kQ hs).2; omega
 replace ae := ae.ai U3
 replace kQ := kQ.ai U3
 replace ag := U3.af ag
 replace hF := hF.go0 U3
 have zz3 := U3.size
 refine jG (e := 5) (size := 1) (bytes := 1) (by kernel_rfl) kQ Rz (by (simp [vals_length]; done)) rG (by simp only [vals_length, List.length_take, List.length_cons, List.length_nil, List.length_append, List.length_map, List.length_range]; omega) (by have := hF.size; omega) (fun v4 w4 N4 hA4 U4 => ?_)
 have o6 := kQ
 have aq6 := BG (S' := w3) (fun hs => by cases hs; exact jJ rfl) ag hA4
 have ap3 := yc (S' := w3) (fun k hk hs => by cases hs; exact gZ _ hk rfl) ae hA4
 have aq7 := acj (S' := w3) G8 Rz hA4
 replace ag := U4.get ag (fun hs => by cases hs; exact jJ rfl)
 replace ae := ae.dO U4 (fun k hk hs => by cases hs; exact gZ _ hk rfl)
 replace kQ := N4
 replace Rz := Rz.dO U4 G8
 replace hF := hF.go U4 (fun i h hs => by (have := (Own.ge o6 hs).1; omega))
 have zz4 := U4.size
 clear o6
 refine bQ (fun g w' => ∃ (v5 : Value), (g 5 = v5) ∧ (Own w.heap.size w' 5 1 v5 (vals .u8 (Gs.vT cs cur x))) ∧ (aB no w w')) (fun J1 hJ1 => ?_) (fun gJ1 jY hI => ?_)
 refine aA (fH ag ae rfl) (fun w5 U5 => ?_)
 replace ae := ae.ai U5
 replace kQ := kQ.ai U5
 replace Rz := Rz.ai U5
 replace ag := U5.af ag
 replace hF := hF.go0 U5
 have zz5 := U5.size
 refine eG (fun g w' => ∃ (k : Nat) (v5 : Value), (g 17 = Z.i (k : Int)) ∧ (k ≤ cs.length) ∧ (g 5 = v5) ∧ (Own w.heap.size w' 5 1 v5 (vals .u8 (Gs.yK cs cur x k))) ∧ (Z.h w' bp #[Z.i r, Z.i c, .slice A cs.length cp, Z.i cur] 91) ∧ (Own B0 w' 37 5 (.slice A cs.length cp) (rows Gs.cv cs)) ∧ (aB no w w')) (fun g w' => cs.length - (RowKit.intOf (g 17)).toNat) ?_ (fun g2 qW hI => ?_)
 exact ⟨0, _, (by rfl), Nat.zero_le _, rfl, (by show Own _ _ _ _ _ (vals .u8 (Gs.yK cs cur x 0)); unfold Gs.yK; rw [List.take_zero, List.flatMap_nil, List.append_nil]; assumption), ag, ae, hF⟩
 obtain ⟨k, v5, g17, hk, g5, dS, ag, ae, hF⟩ := hI
 rw [g17]
 rw [g5]
 have hbk := Gs.WC cs cur x k
 refine az (lss _ _ _ _) (fun h6 => ?_) (fun h6 => ?_)
 refine aK ?_
 refine bQ (fun g w' => ∃ (v5 : Value), (g 5 = v5) ∧ (Own w.heap.size w' 5 1 v5 (vals .u8 (Gs.yK cs cur x (k + 1)))) ∧ (Z.h w' bp #[Z.i r, Z.i c, .slice A cs.length cp, Z.i cur] 91) ∧ (Own B0 w' 37 5 (.slice A cs.length cp) (rows Gs.cv cs)) ∧ (aB no w w')) (fun J3 hJ3 => ?_) (fun gJ3 KA hI => ?_)
 refine aA (gy ag ae rfl (i := (k : Int))) (fun w7 U7 => ?_)
 replace dS := dS.ai U7
 replace ae := ae.ai U7
 replace ag := U7.af ag
 replace hF := hF.go0 U7
 have zz7 := U7.size
 refine Z.n ((Gs.cv Gs.zc).toArray) (fun b8 w8 e8 lI _ U8 => ?_)
 have zQ := dS.apart e8
 have wY : bp ≠ b8 := by have := aj ag; omega
 have rq := ae.apart e8
 have Fa : w.heap.size ≤ b8 := by have := hF.size; omega
 replace dS := dS.ai U8
 replace ae := ae.ai U8
 replace ag := U8.af ag
 replace hF := hF.go0 U8
 have zz8 := U8.size
 refine Z.t 5 ((Gs.cv (Gs.bH cs k)).toArray) (by (simp [Value.cells, Value.oneCell', Gs.cv, Gs.fv, Gs.ie]; done)) lI (fun w9 lI _ U9 => ?_)
 replace dS := dS.aF U9 zQ
 replace ae := ae.aF U9 rq
 replace ag := U9.au ag wY
 replace hF := hF.go1 U9 Fa
 have zz9 := U9.size
 refine Z.f 2 ?_
 refine oJ (kH (by kernel_rfl) lI (by rfl)) (fun h10 => ?_) (fun h10 => ?_)
 refine aK ?_
 refine Z.f 0 ?_
 refine Z.l lI ?_
 refine aA (Yx (Gs.sO hcw k)) (fun nT bD => ?_)
 replace dS := dS.ai bD
 replace ae := ae.ai bD
 replace ag := bD.af ag
 replace lI := bD.af lI
 replace hF := hF.go0 bD
 have zz11 := bD.size
 refine dG (e := 5) (m := 1) (z := #[Z.u 0]) (by kernel_rfl) (by kernel_rfl) (by rfl) (by decide) (by (simp [eH, splice, fO, Value.cells, Gs.cv, Gs.fv, Gs.ie]; rfl)) (fun b12 w12 e12 bV _ bW => ?_)
 have ND := dS.apart e12
 have TF : bp ≠ b12 := by have := aj ag; omega
 have Lj := ae.apart e12
 have ap4 : b8 ≠ b12 := by have := aj lI; omega
 have pR : w.heap.size ≤ b12 := by have := hF.size; omega
 replace dS := dS.ai bW
 replace ae := ae.ai bW
 replace ag := bW.af ag
 replace lI := bW.af lI
 replace hF := hF.go0 bW
 have zz12 := bW.size
 refine jG (e := 5) (size := 1) (bytes := 1) (by kernel_rfl) dS (Rd.mP bV) rfl (by (simp [Value.oneCell']; done)) (by simp only [vals_length, List.length_take, List.length_cons, List.length_nil, List.length_append, List.length_map, List.length_range]; omega) (by have := hF.size; omega) (fun v13 ve N13 hA13 dC => ?_)
 have jr := dS
 have nc13_b8 : ∀ k, aG v13 k → k ≠ b8 := fun k hk e => Or.elim (hA13 k hk) (fun h => zQ k h e) (fun h => by have := aj lI; omega)
 have aq8 : ∀ k, aG v13 k → k ≠ b12 := fun k hk e => Or.elim (hA13 k hk) (fun h => ND k h e) (fun h => by have := aj bV; omega)
 replace dS := N13
 replace ag := dC.get ag (fun h => by (have := Own.ge jr h; omega))
 replace ae := ae.dO dC (fun k hk hs => by have := lJ k hk; have := (Own.ge jr hs).1; omega)
 replace lI := dC.get lI (fun h => zQ _ h rfl)
 replace bV := dC.get bV (fun h => ND _ h rfl)
 replace hF := hF.go dC (fun i h hs => by (have := (Own.ge jr hs).1; omega))
 have zz13 := dC.size
 clear jr
 refine hJ3 _ _ ?_
 exact ⟨_, (by rfl), (by (rw [← Gs.amb (by omega) (by assumption), ← ui]; exact dS)), ag, ae, hF⟩
 refine aH ?_
 refine Z.b 5 ((Gs.cv (Gs.bH cs k)).toArray) lI ?_
 refine aI (IW) (fun v14 rF D14 => ?_)
 obtain ⟨zS, bZ⟩ := D14
 obtain ⟨A33, c33, rfl, _⟩ := zS.bK
 have Fj : ∀ k, aG _ k → ¬ aG _ k := fun k hk hs => by have := (Own.ge dS hk).2; have := (Own.ge zS hs).1; omega
 have aiz : ¬ aG _ bp := fun h => by have := (Own.ge zS h).1; have := aj ag; omega
 have agM : ∀ k, aG _ k → ¬ aG _ k := fun k hk hs => by have := (Own.ge ae hk).2; have := (Own.ge zS hs).1; omega
 have aiA : ¬ aG _ b8 := fun h => by have := (Own.ge zS h).1; have := aj lI; omega
 replace zS := zS.mono (B' := w.heap.size) hF.size
 replace dS := dS.ai bZ
 replace ae := ae.ai bZ
 replace ag := bZ.af ag
 replace lI := bZ.af lI
 replace hF := hF.go0 bZ
 have zz14 := bZ.size
 have hbl2 := Gs.BK (Gs.bH cs k)
 refine jG (e := 5) (size := 1) (bytes := 1) (by kernel_rfl) dS zS.xW (by (simp [vals_length]; done)) rG (by simp only [vals_length, List.length_take, List.length_cons, List.length_nil, List.length_append, List.length_map, List.length_range]; omega) (by have := hF.size; omega) (fun v15 ut N15 hA15 bT => ?_)
 have jr := dS
 have aoS := yc (S' := rF) (fun k hk hs => Fj k hs hk) zS hA15
 have nc15_b8 : ∀ k, aG v15 k → k ≠ b8 := fun k hk e => Or.elim (hA15 k hk) (fun h => zQ k h e) (fun h => by have := aj lI; omega)
 replace dS := N15
 replace ag := bT.get ag (fun h => by (have := Own.ge jr h; omega))
 replace ae := ae.dO bT (fun k hk hs => by have := lJ k hk; have := (Own.ge jr hs).1; omega)
 replace lI := bT.get lI (fun h => zQ _ h rfl)
 replace zS := zS.dO bT (fun k hk hs => Fj k hs hk)
 replace hF := hF.go bT (fun i h hs => by (have := (Own.ge jr hs).1; omega))
 have zz15 := bT.size
 clear jr
 refine hJ3 _ _ ?_
 exact ⟨_, (by rfl), (by (rw [← Gs.amc (by omega) (by assumption), ← ui]; exact dS)), ag, ae, hF⟩
 obtain ⟨v5, g5, dS, ag, ae, hF⟩ := hI
 refine ak (dJ _ (by omega)) ?_
 exact ⟨⟨k + 1, _, (by rfl), by omega, (by exact g5), dS, ag, ae, hF⟩, cnt_lt (by rfl) rfl (by omega)⟩
 refine aH ?_
 refine hJ1 _ _ ?_
 exact ⟨_, (by exact g5), (by rw [← Gs.Om, show cs.length = k by omega]; exact dS), hF⟩
 obtain ⟨v5, g5, dS, hF⟩ := hI
 rw [g5]
 exact ⟨_, rfl, dS, hF⟩
section
variable (R : Ending → World → Prop) (w : World)
set_option maxRecDepth 100000
def F8 : Prop :=
 oD 32 #[(0, (Z.i 1)), (1, (Z.i 6))] w R fun t7 w =>
 oC 33 #[t7] w R fun t8 w =>
 oE t8 0 w R fun t9 w =>
 oE t8 1 w R fun t10 w =>
 oQ true .eql 33 t9 (.pointer none) w R fun t12 w =>
 cond t12 (R (.returned (.bool false)) w)
 (oD 37 #[(2, (.bool true))] w R fun t14 w =>
 oC 14 #[t9, (Z.i 0), t14] w R fun t15 w =>
 oC 36 #[t9, (Z.i 1)] w R fun t17 w =>
 oC 37 #[t9, (Z.u 193), (.bool false)] w R fun t19 w =>
 oC 20 #[t9, (Z.u 125)] w R fun t22 w =>
 oC 19 #[t22] w R fun t23 w =>
 oE t23 0 w R fun t24 w =>
 oE t23 1 w R fun t25 w =>
 oA 48 w R fun t4 w =>
 oS 48 t4 t24 w R fun _ w =>
 oQ true .eql 25 t19 (Z.i 0) w R fun t27 w =>
 gd t27 true (fun K => K t25 w) w fun t29 w =>
 gd t27 true (fun K => oQ true .eql 25 t29 (Z.i 0) w R K) w fun t30 w =>
 pick t27 t30 (.bool false) w fun t31 w =>
 gd t31 true (fun K => oL 48 t4 w R K) w fun t33 w =>
 gd t31 true (fun K => oC 38 #[(Z.i 37), t33] w R K) w fun t34 w =>
 gd t31 true (fun K => oQ true .eql 9 t34 (.string ⟨#[69, 78, 84, 69, 82, 32, 64, 50, 32, 49, 61, 65]⟩) w R K) w fun t35 w =>
 pick t31 t35 (.bool false) w fun t36 w =>
 gd t36 true (fun K => oC 39 #[(Z.i 37), (Z.u 193)] w R K) w fun t38 w =>
 gd t36 true (fun K => oQ true .eql 21 t38 (.int .i32 65) w R K) w fun t39 w =>
 pick t36 t39 (.bool false) w fun t40 w =>
 R (.returned t40) w)
theorem F8.calls {R w} : F8 R w → oX 8 #[] w R := Z.k (args := []) [0,1,3,4,5,12]
end
theorem ab1 {A : Option Addr} {n cp : Nat} {bs : List Int} {w : World} (bK : Rd w A (vals .u8 bs)) (hn : n = bs.length) (hc : n ≤ cp) (hbs : Bs bs) (hbd : n ≤ 100000) :
    oX 19 #[.slice A n cp] w fun e w' => ∃ v, e = .returned v ∧ ∃ (q : Gs.Inb) (l : List Gs.It) (A' : Option Addr) (c' : Nat), q = Gs.QN bs ∧ q.items = Gs.its l ∧ v = .tuple #[.agg #[Z.u q.jf, .bool q.alone, Z.i q.cur, .slice A' l.length c'], Z.i (Gs.afo (Gs.xP bs))] ∧ Rd w' A' (rows Gs.ie l) ∧ Gs.Cl w' l ∧ Gs.Iw l ∧ wC A' (rows Gs.ie l) w.heap.size ∧ Gs.Wj l w.heap.size ∧ (0 ≤ q.jf ∧ q.jf ≤ 255) ∧ aB no w w' := by
 refine F19.calls ?_
 unfold F19
 have hF : aB no w w := Fr.refl _ _ _
 refine Z.n (#[Z.u 0, .bool false, Z.i 0, .slice none 0 0]) (fun b1 w1 e1 ah _ U1 => ?_)
 have bY : w.heap.size ≤ b1 := by have := hF.size; omega
 replace bK := bK.ai U1
 refine aI (UO bK hn hc hbs hbd) (fun v2 w2 D2 => ?_)
 obtain ⟨q5, l5, A5, c5, hq5, hi5, rfl, Vz, af2, hw5, gA5, gC05, ha5, U2⟩ := D2
 have gC5 : Gs.Wj l5 _ := .inr gC05
 replace hF := hF.go0 U1
 have qF5 := hF.size
 have adG := gA5.ne (aj ah)
 have ab2 := gC5.ne (aj ah)
 refine Z.e ?_
 refine Z.e ?_
 replace ah := U2.af ah
 refine Z.t 4 (#[Z.u q5.jf, .bool q5.alone, Z.i q5.cur, .slice A5 l5.length c5]) (by (simp [Value.cells, Value.oneCell', Gs.cv, Gs.ie]; done)) ah (fun w3 ah _ U3 => ?_)
 refine Z.a 4 ah ?_
 replace hF := (hF.go0 U2).go1 U3 bY
 replace Vz := Vz.aF U3 adG
 replace af2 := af2.aF U3 ab2
 exact ⟨_, rfl, q5, l5, A5, c5, hq5, hi5, rfl, Vz, af2, hw5, gA5.mono qF5, gC5.mono qF5, ha5, hF⟩
open Go Go.Sh Go.RowKit
theorem QL (b : Nat) (w : World) (h0 : w.cell? ⟨b, 0, none⟩ = some (.pointer (some ⟨b, 0, none⟩))) :
    Calls Tryz.prog 100 #[.pointer (some ⟨b, 0, none⟩)] w fun e w' => e = .returned (.tuple #[]) ∧ w' = w := by
 obtain ⟨j, hj, hjs⟩ : ∃ j, Tryz.prog.info? 108 = some j ∧ j.size = 2 := by
   have h : (Tryz.prog.info? 108).map (·.size) = some 2 := by kernel_rfl
   obtain ⟨j, hj, hjs⟩ := Option.map_eq_some_iff.1 h
   exact ⟨j, hj, hjs⟩
 go_enter Tryz.func100, Tryz.ntmps100
 go_wp2
 rw [Lib.run_neq_ptr_same w _ Tryz.underlying106 hj]
 go_wp2
 go_end0
 exact ⟨rfl, rfl⟩
theorem O8 (b : Nat) (w : World) (h0 : w.cell? ⟨b, 0, none⟩ = some (.pointer none)) (hsh : w.shape? b = some (108, 2)) (hfz : w.frozen? ⟨b, 0, none⟩ = false) :
    Calls Tryz.prog 100 #[.pointer (some ⟨b, 0, none⟩)] w fun e w' => e = .returned (.tuple #[]) ∧ w' = w.setCell ⟨b, 0, none⟩ (.pointer (some ⟨b, 0, none⟩)) := by
 obtain ⟨j, hj, hjs⟩ : ∃ j, Tryz.prog.info? 108 = some j ∧ j.size = 2 := by
   have h : (Tryz.prog.info? 108).map (·.size) = some 2 := by kernel_rfl
   obtain ⟨j, hj, hjs⟩ := Option.map_eq_some_iff.1 h
   exact ⟨j, hj, hjs⟩
 go_enter Tryz.func100, Tryz.ntmps100
 go_wp2
 rw [Lib.run_to_unsafe w ⟨b, 0, none⟩ Tryz.underlying106 Tryz.underlying197 hj (by rw [hjs]; decide) hsh (Nat.zero_lt_succ 1)]
 simp only [Result.andThen]
 rw [Oper.upon_value]
 go_wp2
 rw [run_callFunc_extern Tryz.func143 (by kernel_rfl) (by kernel_rfl) (by kernel_rfl) (e := Extern.AbiNoEscape.same) (by kernel_rfl)]
 rw [Lib.run_noEscape]
 simp only [Result.andThen]
 rw [Oper.upon_value]
 go_wp2
 rw [Lib.run_from_unsafe w ⟨b, 0, none⟩ Tryz.underlying197 Tryz.underlying106 hj hsh (by kernel_rfl)]
 simp only [Result.andThen]
 rw [Oper.upon_value]
 go_wp2
 go_end0
 exact ⟨rfl, rfl⟩
def ni (B : Nat) (w : World) (b : Nat) (v : Value) (l : List Value) : Prop :=
  (∃ p, (p = .pointer none ∨ p = .pointer (some ⟨b, 0, none⟩)) ∧ w.heap[b]? = some (.cells #[p, v] 108 (0, 0))) ∧ Own B w 5 1 v l ∧ ∀ k, aG v k → k ≠ b
def NL (b : Nat) (v : Value) : Nat → Prop := fun k => k = b ∨ aG v k
theorem ni.lt {B b : Nat} {w : World} {v : Value} {l : List Value} (h : ni B w b v l) : b < w.heap.size := by obtain ⟨⟨p, _, hb⟩, _⟩ := h; exact aj hb
theorem ni.ge {B b : Nat} {w : World} {v : Value} {l : List Value} (h : ni B w b v l) {k : Nat} (hk : aG v k) : B ≤ k := (h.2.1.ge hk).1
theorem ni.dO {S : Nat → Prop} {B b : Nat} {w w' : World} {v : Value} {l : List Value} (h : ni B w b v l) (u : aB S w w') (hs : ∀ k, NL b v k → ¬ S k) : ni B w' b v l := by
  obtain ⟨⟨p, hp, hb⟩, ho, hn⟩ := h
  exact ⟨⟨p, hp, u.get hb (hs b (.inl rfl))⟩, ho.dO u (fun k hk => hs k (.inr hk)), hn⟩
theorem ni.ai {B b : Nat} {w w' : World} {v : Value} {l : List Value} (h : ni B w b v l) (u : aB no w w') : ni B w' b v l := h.dO u (fun _ _ => id)
theorem ni.aF {B b g : Nat} {w w' : World} {v : Value} {l : List Value} (h : ni B w b v l) (u : aB (· = g) w w') (hs : ∀ k, NL b v k → k ≠ g) : ni B w' b v l := h.dO u hs
theorem ni.new {w : World} {b : Nat} (hb : w.heap[b]? = some (.cells #[.pointer none, .slice none 0 0] 108 (0, 0))) (B : Nat) : ni B w b (.slice none 0 0) [] :=
  ⟨⟨_, .inl rfl, hb⟩, Own.nil _ _ _ _, fun k hk => by cases hk⟩
theorem XU {w : World} {b o : Nat} {v : Value} : aB (· = b) w (w.setCell ⟨b, o, none⟩ v) :=
  ⟨rfl, rfl, rfl, by simp [World.setCell], fun k _ hs => by simp only [World.setCell, Array.getElem?_modify]; rw [if_neg (fun e => hs e.symm)]⟩
theorem XV {B b : Nat} {w : World} {v : Value} {l : List Value} (h : ni B w b v l) :
    Calls Tryz.prog 100 #[.pointer (some ⟨b, 0, none⟩)] w fun e w' => e = .returned (.tuple #[]) ∧ w'.heap[b]? = some (.cells #[.pointer (some ⟨b, 0, none⟩), v] 108 (0, 0)) ∧ w'.heap.size = w.heap.size ∧ aB (· = b) w w' := by
 obtain ⟨⟨p, rfl | rfl, hb⟩, _⟩ := h
 refine (O8 b w (by simp [World.cell?, hb]) (by simp [World.shape?, hb]) (by simp [World.frozen?, hb])).mono ?_
 rintro e w' ⟨rfl, rfl⟩
 exact ⟨rfl, by simp [World.setCell, Array.getElem?_modify, hb], by simp [World.setCell], XU⟩
 refine (QL b w (by simp [World.cell?, hb])).mono ?_
 rintro e w' ⟨rfl, rfl⟩
 exact ⟨rfl, hb, rfl, Fr.refl _ _ _⟩
theorem strCells_eq (s : ByteArray) : Lib.strCells s = Lib.byteCells s.data.toList := by
  simp [Lib.strCells, Lib.byteCells]
theorem BR {B b : Nat} {s : ByteArray} {w : World} {v : Value} {l : List UInt8} (h : ni B w b v (Lib.byteCells l)) (hl : l.length ≤ 17592186044416) (hs : s.size ≤ 17592186044416) (hB : B ≤ w.heap.size) :
    Calls Tryz.prog 76 #[.pointer (some ⟨b, 0, none⟩), .string s] w fun e w' => ∃ x, e = .returned x ∧ ∃ v', ni B w' b v' (Lib.byteCells (l ++ s.data.toList)) ∧ aB (NL b v) w w' := by
 refine F76.calls ?_
 unfold F76
 obtain ⟨_, ho, hn⟩ := id h
 refine aA (XV h) fun w1 ⟨h1, s1, u1⟩ => ?_
 refine dB ?_
 refine ak (qc (off := 1) (by kernel_rfl)) ?_
 refine ak (kH (by kernel_rfl) h1 (by rfl)) ?_
 have ho1 := ho.aF u1 hn
 obtain ⟨n, hr⟩ := id ho1
 have hn1 : n = l.length := by have := hr.1; simp [Lib.byteCells] at this; omega
 subst hn1
 obtain ⟨i, hi, hi1, hi2, hi3⟩ : ∃ i, (Tryz.prog).info? 5 = some i ∧ i.zero = some (.int .u8 0) ∧ i.size = 1 ∧ i.bytes = 1 := by
   have h : (match (Tryz.prog).info? 5 with | some i => (match i.zero with | some (.int .u8 0) => true | _ => false) && i.size == 1 && i.bytes == 1 | none => false) = true := by kernel_rfl
   split at h
   · rename_i i hi
     simp only [Bool.and_eq_true, beq_iff_eq] at h
     refine ⟨i, hi, ?_, h.1.2, h.2⟩
     have h2 := h.1.1
     split at h2
     · assumption
     · cases h2
   · cases h
 obtain ⟨v3, w3, r1, r2, r3, _⟩ := Lib.run_append_own_string (P := Tryz.prog) w1 B 24 9 24 5 i Tryz.underlying24 Tryz.underlying9 hi hi1 hi2 hi3 v l.length _ hr s (by simp only [maxLen]; omega) (by omega) (by omega)
 refine ak r1 ?_
 have u3 : aB (aG v) w1 w3 := ⟨r3.os, r3.tape, r3.output, r3.size, fun k hk hs => r3.block k hk (fun e => hs e)⟩
 have N3 : Own B w3 5 1 v3 (Lib.byteCells (l ++ s.data.toList)) := ⟨_, by rw [strCells_eq] at r2; simpa [Lib.byteCells] using r2⟩
 have h13 := u3.get h1 (fun hk => hn b hk rfl)
 refine dB ?_
 refine ak (qc (off := 1) (by kernel_rfl)) ?_
 have hlt := h.lt
 have hn3 : ∀ k, aG v3 k → k ≠ b := by
   intro k hk e
   subst e
   rcases h13' : N3 with ⟨n, _, h' | ⟨g, cap, cur, hv, _, hg, _⟩⟩
   · rw [h'.1] at hk; cases hk
   · rw [hv] at hk
     cases hk
     rw [h13] at hg
     have := (Option.some.inj hg)
     cases this
 have hsz : (Value.cells v3) = #[v3] ∧ v3.oneCell' = true := by
   rcases N3 with ⟨n, _, h' | ⟨g, cap, cur, hv, _⟩⟩
   · rw [h'.1]; exact ⟨rfl, rfl⟩
   · rw [hv]; exact ⟨rfl, rfl⟩
 refine nH (by kernel_rfl) hsz.1 hsz.2 h13 (by simp) rfl (fun w4 h4 s4 u4 => ?_)
 refine ak (ai2 (by kernel_rfl) _) ?_
 refine ⟨_, rfl, v3, ⟨⟨_, .inr rfl, h4⟩, N3.aF u4 hn3, hn3⟩, ?_⟩
 have a := (Fr.refl (NL b v) _ w).go u1 (fun i _ h => .inl h)
 have a := a.go u3 (fun i _ h => .inr h)
 exact a.go u4 (fun i _ h => .inl h)
theorem ni.apart {B b g : Nat} {w : World} {v : Value} {l : List Value} (h : ni B w b v l) (e : g = w.heap.size) : ∀ k, NL b v k → k ≠ g := fun k hk he => by
  rcases hk with hk | hk
  · have := h.lt; omega
  · have := (h.2.1.ge hk).2; omega
theorem ni.jd {B b g : Nat} {w : World} {v : Value} {l : List Value} {o : Obj} (h : ni B w b v l) (hl : w.heap[g]? = some o) (lp : Ci o = true) : ∀ k, NL b v k → k ≠ g := fun k hk he => by
  rcases hk with hk | hk
  · obtain ⟨⟨p, _, hb⟩, _⟩ := h
    exact UI hb hl lp (by omega)
  · exact Own.jd h.2.1 hl lp k hk he
theorem ni.lV {B b g : Nat} {w : World} {v : Value} {l : List Value} {d : Option (List Deferred)} (h : ni B w b v l) (hl : w.heap[g]? = some (.deferred d)) : ∀ k, NL b v k → k ≠ g := fun k hk he => by
  rcases hk with hk | hk
  · obtain ⟨⟨p, _, hb⟩, _⟩ := h
    exact MP hb hl (by omega)
  · exact Own.lV h.2.1 hl k hk he
theorem RZ (w : World) (o : Obj) : aB no w (w.alloc o) := ⟨rfl, rfl, rfl, by simp, fun k hk _ => heap_alloc_old w o hk⟩
theorem ZT (w : World) (g n : Nat) : aB (fun k => some k = some g) w (w.freeze ⟨g, 0, none⟩ n) := by
  unfold World.freeze
  split
  · exact Fr.refl _ _ _
  · exact ⟨rfl, rfl, rfl, by simp, fun k hk hs => by
      simp only [Array.getElem?_modify]
      rw [if_neg (fun e => hs (by rw [← e]))]⟩
theorem ac1 {B b : Nat} {w : World} {v : Value} {l : List UInt8} (h : ni B w b v (Lib.byteCells l)) (hl : l.length ≤ 17592186044416) :
    Calls Tryz.prog 60 #[.pointer (some ⟨b, 0, none⟩)] w fun e w' => e = .returned (.string ⟨l.toArray⟩) ∧ aB (aG v) w w' := by
 refine F60.calls ?_
 unfold F60
 obtain ⟨⟨p, hp, hb⟩, ho, hn⟩ := h
 have hF : aB (aG v) w w := Fr.refl _ _ _
 refine dV (S := aG v) (fun w1 U1 => ?_)
 have hb1 := U1.af hb
 have ho1 := ho.ai U1
 refine fM ?_
 refine bI (fun w' hw' => qc (off := 1) (by kernel_rfl)) ?_
 refine bI (fun w' hw' => kH (by kernel_rfl) (by exact (Fr.jq hw').af hb1) (by rfl)) ?_
 refine fM ?_
 refine bI (fun w' hw' => qc (off := 1) (by kernel_rfl)) ?_
 refine bI (fun w' hw' => kH (by kernel_rfl) (by exact hw'.get hb1 (fun hk => hn b hk rfl)) (by rfl)) ?_
 obtain ⟨n, hln, hor⟩ := id ho1
 rw [Lib.byteCells_length, Nat.mul_one] at hln
 subst hln
 rcases hor with ⟨rfl, h0⟩ | ⟨g, cap, cur, rfl, hbg, hg, hnc, hcm, hcs, htk⟩
 have hl0 : l = [] := List.length_eq_zero_iff.1 h0
 subst hl0
 refine bI (fun w' hw' => gK (by kernel_rfl) _ _ _) ?_
 refine aJ (fun w2 U2 => ?_)
 refine jy (ak (Lib.run_unsafeSliceData_nil _ _ _ _ _) ⟨Fr.refl _ _ _, ?_⟩)
 refine aJ (fun w3 U3 => ?_)
 refine ak (Lib.run_unsafeString_none _ _ _ _ _) ?_
 refine aJ (fun w4 U4 => ?_)
 replace hF := hF.go0 U1
 exact ⟨rfl, ((hF.go0 U2).go0 U3).go0 U4⟩
 by_cases hl0 : l = []
 subst hl0
 refine bI (fun w' hw' => gK (by kernel_rfl) _ _ _) ?_
 refine aJ (fun w2 U2 => ?_)
 by_cases hc0 : cap = 0
 subst hc0
 have hg2 := U2.af hg
 refine jy (ak (Lib.run_unsafeSliceData_zero _ _ _ 5 (by kernel_rfl) ⟨g, 0, none⟩ _ (5, cur.size) (by simp [World.shape?, hg2])) ⟨(RZ _ _).any, ?_⟩)
 refine aJ (fun w3 U3 => ?_)
 refine ak (Lib.run_unsafeString_none _ _ _ _ _) ?_
 refine aJ (fun w4 U4 => ?_)
 replace hF := hF.go0 U1
 exact ⟨rfl, (((hF.go0 U2).go0 (RZ _ _)).go0 U3).go0 U4⟩
 refine jy (ak (Lib.run_unsafeSliceData_row _ _ _ _ _ _ hc0) ⟨Fr.refl _ _ _, ?_⟩)
 refine aJ (fun w3 U3 => ?_)
 refine ak (Lib.run_unsafeString_none _ _ _ _ _) ?_
 refine aJ (fun w4 U4 => ?_)
 replace hF := hF.go0 U1
 exact ⟨rfl, ((hF.go0 U2).go0 U3).go0 U4⟩
 have hlp : 0 < l.length := List.length_pos_iff.2 hl0
 refine bI (fun w' hw' => gK (by kernel_rfl) _ _ _) ?_
 refine aJ (fun w2 U2 => ?_)
 refine jy (ak (Lib.run_unsafeSliceData_row _ _ _ _ _ _ (by omega)) ⟨Fr.refl _ _ _, ?_⟩)
 refine aJ (fun w3 U3 => ?_)
 have hg3 := U3.af (U2.af hg)
 have ho3 := (ho1.ai U2).ai U3
 refine ak (Lib.run_unsafeString_row w3 _ _ _ 5 (by kernel_rfl) (by kernel_rfl) g cur.size (by simp [World.shape?, hg3]) l hl0 (by omega) (by omega) (fun j x hx => ?_)) ?_
 obtain ⟨n', _, hor'⟩ := ho3
 rcases hor' with ⟨hv, _⟩ | ⟨g', cap', cur', hv, _, hg', _, _, _, htk'⟩
 cases hv
 cases hv
 have e : (⟨g, 0, none⟩ : Addr).add j = ⟨g, j, none⟩ := by
   unfold Addr.add; split
   · rename_i h; subst h; rfl
   · simp
 have h2 : (Lib.byteCells l)[j]? = some (.int .u8 x.toNat) := by simp [Lib.byteCells, hx]
 rw [← htk', List.getElem?_take] at h2
 split at h2
 rw [e, Lib.cell_of_heap hg']; simpa using h2
 cases h2
 refine aJ (fun w4 U4 => ?_)
 replace hF := hF.go0 U1
 exact ⟨rfl, (((hF.go0 U2).go0 U3).go (ZT _ _ _) (fun i _ h => h)).go0 U4⟩
theorem adH {n : Int} {w : World} {gT : Nat} {eT : TypeId} {fT : Nat × Nat} (hgT : Tryz.prog.globalNamed "internal/strconv.uint64pow10" = some gT) (cZ : w.heap[gT]? = some (.cells Gs.vU eT fT)) (hn : -9223372036854775808 ≤ n ∧ n ≤ 9223372036854775807) :
    oX 77 #[Z.i n] w fun e w' => e = .returned (.string (Gs.zC n)) ∧ aB no w w' :=
  (Go.Proofs.Tryz.strconv_Itoa n hn.1 hn.2 w (alZ hgT cZ)).mono fun e w' ⟨h, k, os, hw⟩ => ⟨h, by
    subst hw
    exact Fr.of_below (Lib.below_grow w.heap.size w (Nat.le_refl _) k os)⟩
theorem adI {page : Int} {jf cur : Int} {al : Bool} {A : Option Addr} {n cp : Nat} {l : List Gs.It} {gT : Nat} {eT : TypeId} {fT : Nat × Nat} {w : World} (rd : Rd w A (rows Gs.ie l)) (hn : n = l.length) (jF : Gs.Cl w l) (hgT : Tryz.prog.globalNamed "internal/strconv.uint64pow10" = some gT) (cZ : w.heap[gT]? = some (.cells Gs.vU eT fT)) (ha : 0 ≤ jf ∧ jf ≤ 255) (hcur : -9223372036854775808 ≤ cur ∧ cur ≤ 9223372036854775807) (hiw : Gs.Iw l) (hat : ∀ x ∈ l, -9223372036854775808 ≤ x.at' ∧ x.at' ≤ 9223372036854775807) (hbd : n ≤ 100000) (hcb : ∀ x ∈ l, x.cs.length ≤ 100000) :
    oX 38 #[Z.i page, .agg #[Z.u jf, .bool al, Z.i cur, .slice A n cp]] w fun e w' => e = .returned (.string ⟨(Gs.Wl page ⟨jf, al, cur, Gs.its l⟩).toArray⟩) ∧ aB no w w' := by
 refine F38.calls ?_
 unfold F38
 have hgl := aj cZ
 have hns := Gs.P7 ha
 have his := Gs.Iy hcur
 have hds := Gs.af4 ha hcur
 have h1s := Gs.Y4
 have h2s := Gs.Y5
 have h3s := Gs.SL
 have ab3 := rd.lt
 have Wn := jF.lt
 have hF : aB no w w := Fr.refl _ _ _
 refine Z.x (#[Z.u jf, .bool al, Z.i cur, .slice A n cp]) (fun b1 w1 e1 ah _ U1 => ?_)
 refine Z.f 1 ?_
 refine oJ (kH (by kernel_rfl) ah (by rfl)) (fun h2 => ?_) (fun h2 => ?_)
 refine aK ?_
 refine Z.f 0 ?_
 refine Z.l ah ?_
 refine aA (GK ha) (fun w3 U3 => ?_)
 replace hF := (hF.go0 U1).go0 U3
 exact ⟨congrArg (fun s => Ending.returned (.string s)) ((Gs.str_eq _).trans (by rw [Gs.al0 (show al = true from by assumption)])), hF⟩
 refine aH ?_
 refine Z.n (#[.pointer none, .slice none 0 0]) (fun b5 w5 e5 cO _ U5 => ?_)
 replace rd := rd.ai U1
 have Og := rd.apart e5
 replace jF := jF.ai U1
 have Kz := jF.apart e5
 replace cZ := U1.af cZ
 have Iz : gT ≠ b5 := by have := aj cZ; omega
 have ik : b1 ≠ b5 := by have := aj ah; omega
 replace hF := hF.go0 U1
 have iM : w.heap.size ≤ b5 := by have := hF.size; omega
 have bld5 : ni w.heap.size _ b5 (.slice none 0 0) (Lib.byteCells []) := ni.new cO _
 clear cO e5
 refine dV (S := (· = b5)) (fun w6 U6 => ?_)
 refine Z.g 0 ?_
 replace ah := U6.af (U5.af ah)
 refine bI (fun w' hw' => by have ah := hw'.au ah ik; exact (kH (by kernel_rfl) ah (by rfl))) ?_
 refine gQ (fun w' hw' => GK ha) ?_
 refine bI (fun w' hw' => (Q4 (by omega))) ?_
 refine Z.g 2 ?_
 refine bI (fun w' hw' => by have ah := hw'.au ah ik; exact (kH (by kernel_rfl) ah (by rfl))) ?_
 replace cZ := U6.af (U5.af cZ)
 refine gQ (fun w' hw' => by have cZ := hw'.au cZ Iz; exact adH hgT cZ hcur) ?_
 refine bI (fun w' hw' => (Q4 (by (simp only [Gs.wW]; omega)))) ?_
 refine aJ (fun nT bD => ?_)
 replace hF := ((hF.go0 U5).go0 U6).go0 bD
 replace bld5 := (bld5.ai U6).ai bD
 refine aI (BR bld5 (Nat.zero_le _) (by (simp only [Gs.wW]; omega)) (by have := hF.size; omega)) (fun x12 w12 D12 => ?_)
 obtain ⟨vb12, N12, bW⟩ := D12
 have bld5_o := bld5
 replace rd := ((rd.ai U5).ai U6).ai bD
 replace rd := rd.dO bW (Og.elim .inl fun h1 => ab3.imp_right fun h2 k hk hs => Or.elim hs (fun e => absurd e (h1 k hk)) (fun h => by have := h2 k hk; have := ni.ge bld5_o h; omega))
 replace jF := ((jF.ai U5).ai U6).ai bD
 replace jF := jF.dO bW (Kz.elim .inl fun h1 => Wn.imp_right fun h2 k hk hs => Or.elim hs (fun e => absurd e (h1 k hk)) (fun h => by have := h2 k hk; have := ni.ge bld5_o h; omega))
 replace cZ := bD.af cZ
 replace cZ := bW.get cZ (fun hs => Or.elim hs (fun e => absurd e Iz) (fun h => by (have := ni.ge bld5_o h; omega)))
 replace ah := bD.af ah
 replace ah := bW.get ah (fun hs => Or.elim hs (fun e => absurd e ik) (fun h => Own.aT bld5_o.2.1 ah (by decide) _ h rfl))
 replace hF := hF.go bW (fun i h hs => Or.elim hs (fun e => by have := iM; omega) (fun h => by have := ni.ge bld5_o h; omega))
 replace bld5 := N12
 clear bld5_o
 refine aJ (fun ve dC => ?_)
 refine bQ (fun g w' => ∃ (v5 : Value), (ni w.heap.size w' b5 v5 (Lib.byteCells ((Gs.Nl jf cur).data.toList ++ (Gs.its l).flatMap (Gs.EU page)))) ∧ (aB no w w')) (fun J1 hJ1 => ?_) (fun gJ1 jY hI => ?_)
 refine Z.f 3 ?_
 replace ah := dC.af ah
 refine Z.l ah ?_
 refine ak (gK (by kernel_rfl) _ _ _) ?_
 refine eG (fun g w' => ∃ (k : Nat) (v5 : Value), (g 28 = Z.i (k : Int)) ∧ (k ≤ l.length) ∧ (ni w.heap.size w' b5 v5 (Lib.byteCells ((Gs.Nl jf cur).data.toList ++ (Gs.its (l.take k)).flatMap (Gs.EU page)))) ∧ (Z.h w' b1 #[Z.u jf, .bool al, Z.i cur, .slice A n cp] 48) ∧ (Rd w' A (rows Gs.ie l)) ∧ (Gs.Cl w' l) ∧ (w'.heap[gT]? = some (.cells Gs.vU eT fT)) ∧ (aB no w w')) (fun g w' => l.length - (RowKit.intOf (g 28)).toNat) ?_ (fun g2 qW hI => ?_)
 replace rd := rd.ai dC
 replace jF := jF.ai dC
 replace bld5 := bld5.ai dC
 replace cZ := dC.af cZ
 replace hF := hF.go0 dC
 exact ⟨0, _, (by rfl), Nat.zero_le _, (by simpa [Gs.Nl, Gs.its] using bld5), ah, rd, jF, cZ, hF⟩
 replace rd := rd.ai dC
 replace jF := jF.ai dC
 replace bld5 := bld5.ai dC
 replace cZ := dC.af cZ
 replace hF := hF.go0 dC
 obtain ⟨k, v5, g28, hk, bld5, ah, rd, jF, cZ, hF⟩ := hI
 rw [g28]
 have hfl := Gs.Wp (page := page) hiw hat hcb k
 refine az (lss _ _ _ _) (fun h14 => ?_) (fun h14 => ?_)
 refine aK ?_
 refine bQ (fun g w' => ∃ (v5 : Value), (ni w.heap.size w' b5 v5 (Lib.byteCells ((Gs.Nl jf cur).data.toList ++ (Gs.its (l.take (k + 1))).flatMap (Gs.EU page)))) ∧ (Z.h w' b1 #[Z.u jf, .bool al, Z.i cur, .slice A n cp] 48) ∧ (Rd w' A (rows Gs.ie l)) ∧ (Gs.Cl w' l) ∧ (w'.heap[gT]? = some (.cells Gs.vU eT fT)) ∧ (aB no w w')) (fun J3 hJ3 => ?_) (fun gJ3 KA hI => ?_)
 refine tK Gs.LY (by kernel_rfl) (by kernel_rfl) rd (by assumption) (by omega) (by omega) (fun x15 DC => ?_)
 simp only [Int.toNat_natCast] at DC
 refine Z.n (#[Z.i 0, .slice none 0 0]) (fun b16 w16 e16 jg _ bU => ?_)
 have yf := bld5.apart e16
 have BD : b1 ≠ b16 := by have := aj ah; omega
 have KC := rd.apart e16
 have IA := jF.apart e16
 have adJ : gT ≠ b16 := by have := aj cZ; omega
 have JV : w.heap.size ≤ b16 := by have := hF.size; omega
 refine Z.t 2 ((Gs.ie x15).toArray) (by (simp [Value.cells, Value.oneCell', Gs.cv, Gs.ie]; done)) jg (fun vW jg _ di => ?_)
 refine Z.f 0 ?_
 refine Z.l jg ?_
 replace cZ := di.au (bU.af cZ) adJ
 refine aA (adH hgT cZ (hat _ (List.mem_of_getElem? DC))) (fun xY dR => ?_)
 refine bQ (fun g w' => (g 8 = .string (Gs.SN x15.at')) ∧ (ni w.heap.size w' b5 v5 (Lib.byteCells ((Gs.Nl jf cur).data.toList ++ (Gs.its (l.take k)).flatMap (Gs.EU page)))) ∧ (Z.h w' b1 #[Z.u jf, .bool al, Z.i cur, .slice A n cp] 48) ∧ (Z.h w' b16 ((Gs.ie x15).toArray) 54) ∧ (Rd w' A (rows Gs.ie l)) ∧ (Gs.Cl w' l) ∧ (w'.heap[gT]? = some (.cells Gs.vU eT fT)) ∧ (b16 ≠ b5) ∧ (aB no w w')) (fun J4 hJ4 => ?_) (fun gJ4 wJ4 hI => ?_)
 refine Z.f 0 ?_
 replace jg := dR.af jg
 refine Z.l jg ?_
 refine az (dh _ _ _ _ _) (fun h19 => ?_) (fun h19 => ?_)
 refine aK ?_
 refine hJ4 _ _ ?_
 replace bld5 := ((bld5.ai bU).aF di yf).ai dR
 replace rd := ((rd.ai bU).aF di KC).ai dR
 replace jF := ((jF.ai bU).aF di IA).ai dR
 replace ah := dR.af (di.au (bU.af ah) BD)
 replace hF := ((hF.go0 bU).go1 di JV).go0 dR
 replace cZ := dR.af cZ
 exact ⟨(by (rw [Gs.SN, if_pos (by assumption)]; rfl)), bld5, ah, jg, rd, jF, cZ, (fun e => yf _ (.inl rfl) e.symm), hF⟩
 refine aH ?_
 refine hJ4 _ _ ?_
 replace bld5 := ((bld5.ai bU).aF di yf).ai dR
 replace rd := ((rd.ai bU).aF di KC).ai dR
 replace jF := ((jF.ai bU).aF di IA).ai dR
 replace ah := dR.af (di.au (bU.af ah) BD)
 replace hF := ((hF.go0 bU).go1 di JV).go0 dR
 replace cZ := dR.af cZ
 exact ⟨(by (rw [Gs.SN, if_neg (by assumption)]; rfl)), bld5, ah, jg, rd, jF, cZ, (fun e => yf _ (.inl rfl) e.symm), hF⟩
 replace bld5 := ((bld5.ai bU).aF di yf).ai dR
 replace rd := ((rd.ai bU).aF di KC).ai dR
 replace jF := ((jF.ai bU).aF di IA).ai dR
 replace ah := dR.af (di.au (bU.af ah) BD)
 replace hF := ((hF.go0 bU).go1 di JV).go0 dR
 replace cZ := dR.af cZ
 replace jg := dR.af jg
 obtain ⟨g8, bld5, ah, jg, rd, jF, cZ, hne57, hF⟩ := hI
 rw [g8]
 have hps := Gs.Wq (hat _ (List.mem_of_getElem? DC))
 refine ak (Q4 (by omega)) ?_
 refine ak (Q4 (by (simp only [Gs.wW]; omega))) ?_
 refine aI (BR bld5 (by simp only [List.length_append, Gs.EW, Gs.wW]; omega) (by (simp only [Gs.wW]; omega)) (by have := hF.size; omega)) (fun x22 Gq D22 => ?_)
 obtain ⟨vb22, N22, eQ⟩ := D22
 have bld5_o := bld5
 replace rd := rd.dO eQ (Og.elim .inl fun h1 => ab3.imp_right fun h2 k hk hs => Or.elim hs (fun e => absurd e (h1 k hk)) (fun h => by have := h2 k hk; have := ni.ge bld5_o h; omega))
 replace jF := jF.dO eQ (Kz.elim .inl fun h1 => Wn.imp_right fun h2 k hk hs => Or.elim hs (fun e => absurd e (h1 k hk)) (fun h => by have := h2 k hk; have := ni.ge bld5_o h; omega))
 replace ah := eQ.get ah (fun hs => Or.elim hs (fun e => absurd e ik) (fun h => Own.aT bld5_o.2.1 ah (by decide) _ h rfl))
 replace jg := eQ.get jg (fun hs => Or.elim hs (fun e => absurd e (by omega)) (fun h => Own.aT bld5_o.2.1 jg (by decide) _ h rfl))
 replace cZ := eQ.get cZ (fun hs => Or.elim hs (fun e => absurd e Iz) (fun h => by (have := ni.ge bld5_o h; omega)))
 replace hF := hF.go eQ (fun i h hs => Or.elim hs (fun e => by have := iM; omega) (fun h => by have := ni.ge bld5_o h; omega))
 replace bld5 := N22
 clear bld5_o
 refine Z.f 1 ?_
 refine Z.l jg ?_
 refine ak (gK (by kernel_rfl) _ _ _) ?_
 refine eG (fun g w' => ∃ (m : Nat) (v5 : Value), (g 45 = Z.i (m : Nat)) ∧ (m ≤ (x15).cs.length) ∧ (ni w.heap.size w' b5 v5 (Lib.byteCells ((Gs.Nl jf cur).data.toList ++ (Gs.its (l.take k)).flatMap (Gs.EU page) ++ (⟨#[32]⟩ ++ Gs.SN x15.at' ++ ⟨#[61]⟩ : ByteArray).data.toList ++ ((x15).cs.take m).flatMap (Gs.P8 page)))) ∧ (Z.h w' b1 #[Z.u jf, .bool al, Z.i cur, .slice A n cp] 48) ∧ (Z.h w' b16 ((Gs.ie x15).toArray) 54) ∧ (Rd w' A (rows Gs.ie l)) ∧ (Gs.Cl w' l) ∧ (w'.heap[gT]? = some (.cells Gs.vU eT fT)) ∧ (aB no w w')) (fun g w' => (x15).cs.length - (RowKit.intOf (g 45)).toNat) ?_ (fun g5 wl5 hI => ?_)
 exact ⟨0, _, rfl, (by omega), (by simpa using bld5), ah, jg, rd, jF, cZ, hF⟩
 obtain ⟨m, v5, g45, hm, bld5, ah, jg, rd, jF, cZ, hF⟩ := hI
 rw [g45]
 have hsl := Gs.ajC (page := page) (xs := (x15).cs) (k := m) (hiw _ (List.mem_of_getElem? DC))
 have hcl := hcb _ (List.mem_of_getElem? DC)
 refine az (lss _ _ _ _) (fun h23 => ?_) (fun h23 => ?_)
 refine aK ?_
 refine tK Gs.zF (by kernel_rfl) (by kernel_rfl) (jF.get DC) (by rfl) (by omega) (by omega) (fun x24 hx24 => ?_)
 simp only [Int.toNat_natCast] at hx24
 refine Z.n ((Gs.cv Gs.zc).toArray) (fun b25 JC e25 ab4 _ iq => ?_)
 have Yg := bld5.apart e25
 have adK : b1 ≠ b25 := by have := aj ah; omega
 have ab5 : b16 ≠ b25 := by have := aj jg; omega
 have adL := rd.apart e25
 have ab6 := jF.apart e25
 have adM : gT ≠ b25 := by have := aj cZ; omega
 have al1 : w.heap.size ≤ b25 := by have := hF.size; omega
 refine Z.t 5 ((Gs.cv x24).toArray) (by (simp [Value.cells, Value.oneCell', Gs.cv, Gs.ie]; done)) ab4 (fun Pg ab4 _ jm => ?_)
 refine Z.b 5 ((Gs.cv x24).toArray) ab4 ?_
 refine aA (Q3 (hiw _ (List.mem_of_getElem? DC) _ (List.mem_of_getElem? hx24))) (fun MV iw => ?_)
 replace bld5 := ((bld5.ai iq).aF jm Yg).ai iw
 replace hF := ((hF.go0 iq).go1 jm al1).go0 iw
 refine aI (BR bld5 (by simp only [List.length_append, Gs.EW, Gs.wW]; omega) (by have := Gs.af5 (page := page) (hiw _ (List.mem_of_getElem? DC) _ (List.mem_of_getElem? hx24)); omega) (by have := hF.size; omega)) (fun x28 Vw D28 => ?_)
 obtain ⟨vb28, N28, jC⟩ := D28
 have bld5_o := bld5
 replace rd := ((rd.ai iq).aF jm adL).ai iw
 replace rd := rd.dO jC (Og.elim .inl fun h1 => ab3.imp_right fun h2 k hk hs => Or.elim hs (fun e => absurd e (h1 k hk)) (fun h => by have := h2 k hk; have := ni.ge bld5_o h; omega))
 replace jF := ((jF.ai iq).aF jm ab6).ai iw
 replace jF := jF.dO jC (Kz.elim .inl fun h1 => Wn.imp_right fun h2 k hk hs => Or.elim hs (fun e => absurd e (h1 k hk)) (fun h => by have := h2 k hk; have := ni.ge bld5_o h; omega))
 replace ah := iw.af (jm.au (iq.af ah) adK)
 replace ah := jC.get ah (fun hs => Or.elim hs (fun e => absurd e ik) (fun h => Own.aT bld5_o.2.1 ah (by decide) _ h rfl))
 replace jg := iw.af (jm.au (iq.af jg) ab5)
 replace jg := jC.get jg (fun hs => Or.elim hs (fun e => absurd e (by omega)) (fun h => Own.aT bld5_o.2.1 jg (by decide) _ h rfl))
 replace cZ := iw.af (jm.au (iq.af cZ) adM)
 replace cZ := jC.get cZ (fun hs => Or.elim hs (fun e => absurd e Iz) (fun h => by (have := ni.ge bld5_o h; omega)))
 replace hF := hF.go jC (fun i h hs => Or.elim hs (fun e => by have := iM; omega) (fun h => by have := ni.ge bld5_o h; omega))
 replace bld5 := N28
 clear bld5_o
 refine ak (dJ _ (by omega)) ?_
 exact ⟨⟨m + 1, _, rfl, (by omega), (by rw [Gs.adN hx24, ← List.append_assoc]; exact bld5), ah, jg, rd, jF, cZ, hF⟩, cnt_lt (by rfl) rfl (by omega)⟩
 refine aH ?_
 refine hJ3 _ _ ?_
 exact ⟨_, (by rw [Gs.al2 DC, ← List.append_assoc, ← List.append_assoc]; rw [List.take_of_length_le (l := (x15).cs) (by omega)] at bld5; exact bld5), ah, rd, jF, cZ, hF⟩
 obtain ⟨v5, bld5, ah, rd, jF, cZ, hF⟩ := hI
 refine ak (dJ _ (by omega)) ?_
 exact ⟨⟨k + 1, _, (by rfl), by omega, bld5, ah, rd, jF, cZ, hF⟩, cnt_lt (by rfl) rfl (by omega)⟩
 refine aH ?_
 refine hJ1 _ _ ?_
 exact ⟨_, (by rw [List.take_of_length_le (by omega)] at bld5; exact bld5), hF⟩
 replace bld5 := bld5.ai dC
 replace hF := hF.go0 dC
 obtain ⟨v5, bld5, hF⟩ := hI
 have hfl := Gs.Wp (page := page) hiw hat hcb l.length
 rw [List.take_length] at hfl
 refine aA (ac1 bld5 (by simp only [List.length_append, Gs.EW]; omega)) (fun Ve kK => ?_)
 replace hF := hF.go kK (fun i h hs => by have := ni.ge bld5 hs; omega)
 exact ⟨by rw [Gs.al3 (show al = false from by assumption)], hF⟩
end Go.Proofs.YtjdoakbadehicaaGreatDoor
end
section
namespace Gs
open Go Go.Sh
def aI1 : Inb := ⟨125, false, 2, [(1, [⟨193, false, false, 0, 0⟩])]⟩
theorem al4 : xP [125, 64, 194, 17, 64, 193, 193] = .ok aI1 := by
 rw [al5]
 have h : kw [17, 64, 193, 193] = .ok [(1, [⟨193, false, false, 0, 0⟩])] := (Ws (n := 6) (xs := [(1, [⟨193, false, false, 0, 0⟩])]) (by rfl)).1
 rw [h]; rfl
theorem aor : Wl 37 aI1 = [69, 78, 84, 69, 82, 32, 64, 50, 32, 49, 61, 65] := by decide +kernel
theorem adP {l : List It} {L : List (Int × List Cell)} (h : its l = L) {p : Int → List Cell → Prop} (hp : ∀ y ∈ L, p y.1 y.2) : ∀ x ∈ l, p x.at' x.cs := fun x hx => hp (x.at', x.cs) (by rw [← h]; exact List.mem_map.2 ⟨x, hx, rfl⟩)
end Gs
end
section
namespace Go.Proofs.YtjdoakbadehicaaGreatDoor
open Go Go.Sh
set_option maxRecDepth 100000
set_option maxHeartbeats 2000000 in
theorem pY {gT : Nat} {eT : TypeId} {fT : Nat × Nat} {w : World} (hgT : Tryz.prog.globalNamed "internal/strconv.uint64pow10" = some gT) (cZ : w.heap[gT]? = some (.cells Gs.vU eT fT))  :
    oX 8 #[] w fun e w' => e = .returned (.bool true) ∧ aB no w w' := by
 refine F8.calls ?_
 unfold F8
 have hgl := aj cZ
 have hF : aB no w w := Fr.refl _ _ _
 refine ak (bF (l := [(0, 1), (1, 1)]) (z := #[Z.i 0, Z.i 0]) (by kernel_rfl) (by (simp [eH, splice, fO, Value.cells, Gs.cv, Gs.fv, Gs.ie]; rfl))) ?_
 refine aI (wZ (r := 1) (c := 6) (by decide)) (fun v1 w1 D1 => ?_)
 obtain ⟨bp, gp, rfl, gbp, ag, ae, U1⟩ := D1
 rw [show (Gs.aY 1 6).toNat = 6 by decide] at ag ae
 have yO : gT ≠ bp := by have := aj cZ; omega
 have qB : w.heap.size ≤ bp := by have := hF.size; omega
 have Ho : ¬ aG _ gT := fun h => by have := (Own.ge ae h).1; have := aj cZ; omega
 replace ae := ae.mono (B' := w.heap.size) hF.size
 refine Z.e ?_
 refine Z.e ?_
 refine ak (v := .bool false) (Xt (e := 91) (by kernel_rfl)) ?_
 refine aH ?_
 refine ak (bF (l := [(0, 1), (1, 1), (2, 1), (3, 1), (4, 1)]) (z := #[Z.u 0, .bool false, .bool false, Z.u 0, Z.u 0]) (cs := Gs.cv ⟨0, false, true, 0, 0⟩) (by kernel_rfl) (by rfl)) ?_
 refine aI (jZ ag ae (by rfl) (i := 0) (x := (⟨0, false, true, 0, 0⟩ : Gs.Cell))) (fun v3 w3 D3 => ?_)
 obtain ⟨rfl, N3, U3⟩ := D3
 have aN := ae
 replace cZ := U1.af cZ
 replace cZ := U3.get cZ Ho
 replace ag := U3.get ag (fun h => Own.aT aN ag (by decide) _ h rfl)
 replace ae := N3
 replace hF := hF.go0 U1
 replace hF := hF.go U3 (fun i h hs => by (have := (Own.ge aN hs).1; omega))
 clear aN
 rw [show Gs.iC (List.replicate 6 Gs.zc) 0 (⟨0, false, true, 0, 0⟩ : Gs.Cell) = ([⟨0, false, true, 0, 0⟩, Gs.zc, Gs.zc, Gs.zc, Gs.zc, Gs.zc] : List Gs.Cell) by decide +kernel] at ae
 refine aI (vw ag ae (by rfl) (i := 1)) (fun v4 w4 D4 => ?_)
 obtain ⟨rfl, N4, U4⟩ := D4
 replace ae := ae.aF U4 (Own.aT ae (by assumption) (by decide))
 replace ag := N4
 rw [if_pos (by decide)] at ag
 refine aI (Uy ag ae (by rfl) (x := 193) (by decide) (by decide) (by decide) (by unfold Gs.je Gs.Cw; decide : Gs.je ([⟨0, false, true, 0, 0⟩, Gs.zc, Gs.zc, Gs.zc, Gs.zc, Gs.zc] : List Gs.Cell)) (by decide) (by decide +kernel) (by decide +kernel) (by decide +kernel) (by decide +kernel)) (fun v5 w5 D5 => ?_)
 obtain ⟨rfl, M5, N5, U5⟩ := D5
 have aN := ae
 replace ae := N5
 replace cZ := U4.au cZ yO
 replace cZ := U5.get cZ (fun hs => Or.elim (show aG _ _ ∨ _ = _ from hs) Ho (fun hb => absurd hb yO))
 replace ag := M5
 replace hF := hF.go1 U4 qB
 replace hF := hF.go U5 (fun i h hs => Or.elim (show aG _ _ ∨ _ = _ from hs) (fun hs => by (have := (Own.ge aN hs).1; omega)) (fun hb => by (subst hb; omega)))
 clear aN
 rw [show Gs.lT (Gs.iC ([⟨0, false, true, 0, 0⟩, Gs.zc, Gs.zc, Gs.zc, Gs.zc, Gs.zc] : List Gs.Cell) 1 ⟨193, false, false, (Gs.bH ([⟨0, false, true, 0, 0⟩, Gs.zc, Gs.zc, Gs.zc, Gs.zc, Gs.zc] : List Gs.Cell) 1).l, (Gs.bH ([⟨0, false, true, 0, 0⟩, Gs.zc, Gs.zc, Gs.zc, Gs.zc, Gs.zc] : List Gs.Cell) 1).c⟩) 1 = ([⟨1, false, true, 0, 0⟩, ⟨193, false, false, 0, 0⟩, Gs.zc, Gs.zc, Gs.zc, Gs.zc] : List Gs.Cell) by decide +kernel] at ae
 rw [show ((1 : Int) + 1) % ((6 : Nat) : Int) = 2 by decide] at ag
 refine aI (TE ag ae (by rfl) (x := 125) (by decide) (by decide) (by decide) (by unfold Gs.je Gs.Cw; decide : Gs.je ([⟨1, false, true, 0, 0⟩, ⟨193, false, false, 0, 0⟩, Gs.zc, Gs.zc, Gs.zc, Gs.zc] : List Gs.Cell))) (fun v6 w6 D6 => ?_)
 obtain ⟨MI, U6⟩ := D6
 rw [show Gs.readB ([⟨1, false, true, 0, 0⟩, ⟨193, false, false, 0, 0⟩, Gs.zc, Gs.zc, Gs.zc, Gs.zc] : List Gs.Cell) 2 125 = [125, 64, 194, 17, 64, 193, 193] by decide +kernel] at MI
 obtain ⟨A22, c22, rfl, _⟩ := MI.bK
 replace MI := MI.mono (B' := w.heap.size) hF.size
 refine aI (ab1 (bs := [125, 64, 194, 17, 64, 193, 193]) MI.xW rfl MI.Ll (by intro x hx; simp at hx; omega) (by decide)) (fun v7 w7 D7 => ?_)
 obtain ⟨q23, l23, A23, c23, hq23, hi23, rfl, uB, UF, hw23, gA23, gC23, ha23, U7⟩ := D7
 rw [show Gs.QN [125, 64, 194, 17, 64, 193, 193] = Gs.aI1 from by unfold Gs.QN; rw [Gs.al4]; try rfl] at hq23
 subst hq23
 rw [show Gs.afo (Gs.xP [125, 64, 194, 17, 64, 193, 193]) = 0 from by rw [Gs.al4]; rfl]
 replace hi23 : Gs.its l23 = (Gs.aI1 : Gs.Inb).items := hi23.symm
 refine Z.e ?_
 refine Z.e ?_
 refine Z.n (#[Z.u 0, .bool false, Z.i 0, .slice none 0 0]) (fun b8 w8 e8 lI _ U8 => ?_)
 replace cZ := U7.af (U6.af cZ)
 have agZ : gT ≠ b8 := by have := aj cZ; omega
 have acS := uB.apart e8
 have YD := UF.apart e8
 replace hF := (hF.go0 U6).go0 U7
 have Fa : w.heap.size ≤ b8 := by have := hF.size; omega
 refine Z.t 4 (#[Z.u 125, .bool false, Z.i 2, .slice A23 l23.length c23]) (by (simp [Value.cells, Value.oneCell', Gs.cv, Gs.fv, Gs.ie]; done)) lI (fun w9 lI _ U9 => ?_)
 refine qf (dh _ _ _ _ _) (by rfl) ?_
 refine aV (aV ?_)
 refine qf (dh _ _ _ _ _) (by rfl) ?_
 refine aU (aV ?_)
 refine Z.b 4 (#[Z.u 125, .bool false, Z.i 2, .slice A23 l23.length c23]) lI ?_
 refine aV ?_
 replace uB := (uB.ai U8).aF U9 acS
 replace UF := (UF.ai U8).aF U9 YD
 replace cZ := U9.au (U8.af cZ) agZ
 refine aA (adI (page := 37) uB rfl UF hgT cZ (by decide) (by decide) hw23 (Gs.adP hi23 (p := fun p _ => -9223372036854775808 ≤ p ∧ p ≤ 9223372036854775807) (by decide)) (by have := congrArg List.length hi23; rw [Gs.LZ] at this; rw [this]; decide) (Gs.adP hi23 (p := fun _ c => c.length ≤ 100000) (by decide))) (fun w10 aX => ?_)
 rw [hi23, show Gs.Wl 37 ⟨125, false, 2, Gs.aI1.items⟩ = _ from Gs.aor]
 refine aV ?_
 refine qf (eqS _ _ _ _) (by rfl) ?_
 refine aU (aV ?_)
 refine aA (FM (page := 37) (b := 193)) (fun nT bD => ?_)
 refine aV ?_
 refine qf (dh _ _ _ _ _) (by rfl) ?_
 refine aU ?_
 replace hF := (((hF.go0 U8).go1 U9 Fa).go0 aX).go0 bD
 exact ⟨rfl, hF⟩
end Go.Proofs.YtjdoakbadehicaaGreatDoor
end
section
namespace Gs
open Go Go.Sh
def MX : List Int := [245, 195, 17, 64, 67, 193]
theorem ada : gu [17, 64, 67, 193] = ([⟨17, 3, 0, false, [], []⟩, ⟨0, 0, 0, false, [], [193]⟩], 0) := by
 rw [wJ (by decide) (show ji [17, 64, 67, 193] = .ok (⟨17, 3, 0, false, [], []⟩, [193]) from by rfl), wJ (by decide) (show ji [193] = .ok (⟨0, 0, 0, false, [], [193]⟩, []) from by rfl), qZ]
theorem afw : iJ 6 MX = (⟨⟨245, 195, [⟨17, 3, 0, false, [], []⟩, ⟨0, 0, 0, false, [], [193]⟩], 0⟩, []⟩, 0) := by
 rw [show iJ 6 MX = (⟨⟨245, 195, (gu [17, 64, 67, 193]).1, (gu [17, 64, 67, 193]).2⟩, []⟩, 0) from rfl, ada]
theorem Py : uK (uM 1 6) MX = (⟨1, 6, 1, 6, 0, 1, 6, [zc, zc, zc, ⟨193, false, false, 0, 0⟩, zc, zc], 0⟩, ⟨0, true, false, 0⟩) := by
 rw [Vk (b := MX) afw rfl]
 rfl
end Gs
namespace Gs
open Go Go.Sh
end Gs
end
section
namespace Go.Proofs.YtjdoakbadehicaaGreatDoor
open Go Go.Sh
set_option maxRecDepth 100000
set_option maxHeartbeats 2000000 in
theorem nz {w : World} :
    oX 25 #[] w fun e w' => e = .returned (.bool true) ∧ aB no w w' := by
 refine YW.calls ?_
 unfold YW
 have hz6 : Gs.aY 1 6 ≠ 0 := by decide
 have hS := Gs.G5 hz6
 have hF : aB no w w := Fr.refl _ _ _
 refine ak (bF (l := [(0, 1), (1, 1)]) (z := #[Z.i 0, Z.i 0]) (cs := [Z.i 1, Z.i 6]) (by kernel_rfl) (by rfl)) ?_
 refine ak (bF (l := [(0, 1), (1, 1)]) (z := #[Z.i 0, Z.i 0]) (cs := [Z.i 1, Z.i 6]) (by kernel_rfl) (by rfl)) ?_
 refine aI (zK (r0 := 1) (c0 := 6) (r1 := 1) (c1 := 6) hz6 hz6) (fun v3 w3 D3 => ?_)
 obtain ⟨bs, bp, gg, rfl, gbs, gbp, ax, ag, ae, U3⟩ := D3
 replace ae := ae.mono (B' := w.heap.size) hF.size
 refine Z.e ?_
 refine Z.e ?_
 refine ak (v := .bool false) (Xt (e := 89) (by kernel_rfl)) ?_
 refine aW (aW ?_)
 refine aA (fJ ax) (fun w4 U4 => ?_)
 refine aW ?_
 refine ak (v := .bool false) (Xt (e := 91) (by kernel_rfl)) ?_
 refine aQ (aH ?_)
 refine dG (e := 5) (m := 1) (z := #[Z.u 0]) (by kernel_rfl) (by kernel_rfl) (by rfl) (by decide) (by (simp [eH, splice, fO, Value.cells, Gs.cv, Gs.fv, Gs.ie, Gs.pe, Gs.oe, Gs.cu, Gs.fe, Gs.eY, Gs.ce, Gs.dZ, Gs.re, Gs.de, Gs.ie]; rfl)) (fun b5 w5 e5 cO _ U5 => ?_)
 replace ax := U4.af ax
 have OV : bs ≠ b5 := by have := aj ax; omega
 replace ag := U4.af ag
 have jT : bp ≠ b5 := by have := aj ag; omega
 replace ae := ae.ai U4
 have jl := ae.apart e5
 replace hF := ((hF.go0 U3).go0 U4).go0 U5
 replace ae := ae.ai U5
 replace ax := U5.af ax
 replace ag := U5.af ag
 refine aI (xq (s := Gs.uM 1 6) (b := Gs.MX) ax ag ae hS (by have := hF.size; omega) (Rd.mP (xs := vals .u8 Gs.MX) cO) rfl (by decide) (by unfold Gs.MX Bs; decide) (by decide) (.inr (fun k hk hs => by obtain ⟨a, ea, ek⟩ := hk; cases ea; exact jl _ hs ek.symm)) (.inr (fun k hk e => by obtain ⟨a, ea, ek⟩ := hk; cases ea; exact jT (e.symm.trans ek.symm))) (.inr (fun k hk e => by obtain ⟨a, ea, ek⟩ := hk; cases ea; exact OV (e.symm.trans ek.symm)))) (fun v6 w6 D6 => ?_)
 have aN := ae
 have qF6 := hF.size
 obtain ⟨rfl, bp19, A19, n19, cp19, ax, qx, oq, hn19, hb19, ho19, U6⟩ := D6
 rw [Gs.Py] at ax qx oq hn19
 rw [Gs.Py]
 replace hF := hF.go U6 (fun i hi hs => by (rcases hs with (hs | hs) | hs <;> first | (subst hs; omega) | (have := (Own.ge aN hs).1; omega)))
 clear aN
 refine Z.n ((Gs.re Gs.qw).toArray) (fun b7 w7 e7 kT _ U7 => ?_)
 have Bc : bs ≠ b7 := by have := aj ax; omega
 have Je : bp19 ≠ b7 := by have := aj qx; omega
 have Ce := oq.apart e7
 have ul : w.heap.size ≤ b7 := by have := hF.size; omega
 refine Z.t 4 ((Gs.re ⟨0, true, false, 0⟩).toArray) (by (simp [Value.cells, Value.oneCell', Gs.cv, Gs.fv, Gs.ie, Gs.pe, Gs.oe, Gs.cu, Gs.fe, Gs.eY, Gs.ce, Gs.dZ, Gs.re, Gs.de, Gs.ie]; done)) kT (fun w8 kT _ U8 => ?_)
 refine qf (dh _ _ _ _ _) (rfl) ?_
 refine aV ?_
 refine Z.f 1 ?_
 refine aV ?_
 refine Z.l kT ?_
 refine aU (aV (aV ?_))
 replace ax := U8.au (U7.af ax) Bc
 refine aA (fJ ax) (fun w9 U9 => ?_)
 refine aV ?_
 replace oq := ((oq.ai U7).aF U8 Ce).ai U9
 replace qx := U9.af (U8.au (U7.af qx) Je)
 refine aA (gy qx oq hn19 (i := 3)) (fun w10 aX => ?_)
 refine aV ?_
 refine ak (qo (off := 0) (by kernel_rfl) (by rfl)) ?_
 refine aV ?_
 refine qf (dh _ _ _ _ _) (by rfl) ?_
 refine aU (aV (aV ?_))
 replace ax := aX.af (U9.af ax)
 refine aA (fJ ax) (fun nT bD => ?_)
 refine aV ?_
 replace oq := (oq.ai aX).ai bD
 replace qx := bD.af (aX.af qx)
 refine L9 (xQ qx oq hn19 (by rw [hn19]; decide) (by rw [hn19]; decide)) (by decide +kernel) (fun w12 bW => ?_)
 refine aV ?_
 refine ak (mY) ?_
 refine aU ?_
 replace hF := (((((hF.go0 U7).go1 U8 ul).go0 U9).go0 aX).go0 bD).go0 bW
 exact ⟨rfl, hF⟩
end Go.Proofs.YtjdoakbadehicaaGreatDoor
end
section
namespace Gs
open Go Go.Sh
def lK (c : Cell) : Cell := if c.st then ⟨c.b % 64, false, true, 0, 0⟩ else if c.ge then ⟨if c.b < 64 then 64 else c.b, true, false, 0, 0⟩ else ⟨if dX c.b = true then c.b else 64, false, false, 0, 0⟩
def zx (l : List Cell) (b : Br) : Br := l.foldl nJ b
def uG (c : Cell) : Bool := !c.st && !c.ge
def BH (c : Cell) : Int := if dX c.b = true then c.b else 64
theorem aaO (c : Cell) : dX (BH c) = true := by unfold BH; split; assumption; decide
theorem Ij {c : Cell} (h : uG c = true) : ig c = [BH c] ∧ lK c = ⟨BH c, false, false, 0, 0⟩ := by
 unfold uG at h
 simp only [Bool.and_eq_true, Bool.not_eq_true'] at h
 unfold ig lK nK BH
 rw [h.1, h.2]
 refine ⟨?_, rfl⟩
 show (if dX c.b = true then [c.b] else [64]) = [if dX c.b = true then c.b else 64]
 split <;> rfl
theorem VS {c : Cell} (h : uG c = false) : ∃ y r, ig c = y :: r ∧ dX y = false := by
 unfold ig
 cases hs : c.st
 ·have hg : c.ge = true := by unfold uG at h; rw [hs] at h; simpa using h
  unfold nK
  rw [hg]
  simp only [Bool.false_eq_true, if_false, if_true]
  split <;> exact ⟨_, _, rfl, by decide⟩
 ·exact ⟨_, _, rfl, by decide⟩
theorem LP : ∀ cs : List Cell, (cs.flatMap ig).takeWhile dX = (cs.takeWhile uG).map BH ∧ (cs.flatMap ig).dropWhile dX = (cs.dropWhile uG).flatMap ig
 | [] => ⟨rfl, rfl⟩
 | c :: cs => by
  rw [List.flatMap_cons]
  cases h : uG c
  ·obtain ⟨y, r, h1, h2⟩ := VS h
   rw [h1, List.takeWhile_cons_of_neg (by rw [h]; decide), List.dropWhile_cons_of_neg (by rw [h]; decide), List.flatMap_cons, h1, List.cons_append, List.takeWhile_cons_of_neg (by rw [h2]; decide), List.dropWhile_cons_of_neg (by rw [h2]; decide)]
   exact ⟨rfl, rfl⟩
  ·rw [(Ij h).1, List.takeWhile_cons_of_pos h, List.dropWhile_cons_of_pos h, List.singleton_append, List.takeWhile_cons_of_pos (aaO c), List.dropWhile_cons_of_pos (aaO c), (LP cs).1, (LP cs).2]
   exact ⟨rfl, rfl⟩
theorem YQ (l : List Cell) : ∀ (b : Br) (q : Bool), zx l { b with ld := q } = { zx l b with ld := q } := by
 induction l with
 | nil => intro b q; rfl
 | cons x l ih => intro b q; exact ih (nJ b x) q
theorem ajn (l : List Cell) : ∀ b : Br, (zx l b).lk = b.lk := by
 induction l with
 | nil => intro b; rfl
 | cons x l ih => intro b; exact ih (nJ b x)
theorem afF {b : Br} (h : b.lk = zc) : ∀ l : List Cell, (∀ c ∈ l, uG c = true) → lL (l.map BH) b = zx (l.map lK) b := by
 intro l
 induction l generalizing b with
 | nil => intro _; rfl
 | cons x l ih =>
  intro hl
  have hx := (Ij (hl x (List.mem_cons_self ..))).2
  show lL (l.map BH) (nJ b (qP b (BH x) false)) = zx (l.map lK) (nJ b (lK x))
  rw [hx, show qP b (BH x) false = ⟨BH x, false, false, 0, 0⟩ by unfold qP; rw [h]; rfl]
  exact ih (b := nJ b ⟨BH x, false, false, 0, 0⟩) h (fun c hc => hl c (List.mem_cons_of_mem _ hc))
theorem aaP (b : Int) : jV b % 64 = b % 64 := by
 unfold jV
 dsimp only
 split <;> omega
theorem PK {o : iK} {os : List iK} {b b1 : Br} (h : qL o b = (b1, 0)) : jW (o :: os) b = jW os b1 := by
 rw [jW, h, if_pos rfl]
theorem Ik : ∀ (m : Nat) (cs : List Cell), cs.length ≤ m → (∀ c ∈ cs, 0 ≤ c.b) → (gu (cs.flatMap ig)).2 = 0 ∧ ∀ b : Br, b.lk = zc → ∃ q, jW (gu (cs.flatMap ig)).1 b = ({ zx (cs.map lK) b with ld := q }, 0)
 | 0, cs, hm, _ => by
  obtain rfl := List.length_eq_zero_iff.1 (Nat.le_zero.1 hm)
  rw [List.flatMap_nil, qZ]
  exact ⟨rfl, fun b _ => ⟨b.ld, rfl⟩⟩
 | m + 1, [], _, _ => by
  rw [List.flatMap_nil, qZ]
  exact ⟨rfl, fun b _ => ⟨b.ld, rfl⟩⟩
 | m + 1, c :: cs, hm, hw => by
  have hm' : cs.length ≤ m := by simpa using hm
  have hw' : ∀ c ∈ cs, 0 ≤ c.b := fun x hx => hw x (List.mem_cons_of_mem _ hx)
  cases h : uG c
  ·obtain ⟨h1, h2⟩ := Ik m cs hm' hw'
   have key : ∃ o : iK, ji (ig c ++ cs.flatMap ig) = .ok (o, cs.flatMap ig) ∧ ∀ b : Br, b.lk = zc → ∃ q, qL o b = ({ nJ b (lK c) with ld := q }, 0) := by
    cases hs : c.st
    ·have hg : c.ge = true := by unfold uG at h; rw [hs] at h; simpa using h
     obtain ⟨v, hv⟩ : ∃ v, v = if c.b < 64 then 64 else c.b := ⟨_, rfl⟩
     have hv64 : ¬ v < 64 := by subst hv; split <;> omega
     have hbf : ig c = [8, v] := by unfold ig nK; rw [hs, hg, hv]; show (if c.b < 64 then [8, 64] else [8, c.b]) = _; split <;> rfl
     have hout : lK c = ⟨v, true, false, 0, 0⟩ := by unfold lK; rw [hs, hg, hv]; rfl
     rw [hbf, hout]
     have hsp : rV (v :: cs.flatMap ig) = .ok (v, cs.flatMap ig) := by unfold rV; dsimp only; rw [if_neg hv64]
     refine ⟨⟨8, 0, v, false, [], []⟩, ?_, fun b hb => ⟨true, ?_⟩⟩
     ·show ji (8 :: v :: cs.flatMap ig) = _
      rw [ji, if_neg (by decide), if_neg (by decide), if_neg (by decide), if_neg (by decide), if_neg (by decide), if_neg (by decide), if_neg (by decide), if_pos rfl, hsp]
     ·rw [show qL ⟨8, 0, v, false, [], []⟩ b = ({ nJ b (qP b v true) with ld := true }, 0) from rfl]
      unfold qP
      rw [hb]; rfl
    ·have hbf : ig c = [29, jV c.b] := by unfold ig; rw [hs]; rfl
     have hout : lK c = ⟨c.b % 64, false, true, 0, 0⟩ := by unfold lK; rw [hs]; rfl
     rw [hbf, hout]
     refine ⟨⟨29, 0, jV c.b % 64, false, [], []⟩, rfl, fun b hb => ⟨false, ?_⟩⟩
     rw [show qL ⟨29, 0, jV c.b % 64, false, [], []⟩ b = ({ nJ b ⟨jV c.b % 64 % 64, false, true, 0, 0⟩ with ld := false }, 0) from rfl, show jV c.b % 64 % 64 = c.b % 64 by rw [aaP]; omega]
   obtain ⟨o, ho, hd⟩ := key
   obtain ⟨y, r, hy, _⟩ := VS h
   rw [List.flatMap_cons, wJ (by rw [hy]; exact List.cons_ne_nil _ _) ho]
   refine ⟨h1, fun b hb => ?_⟩
   obtain ⟨q, hq⟩ := hd b hb
   rw [PK hq]
   obtain ⟨q2, hq2⟩ := h2 { nJ b (lK c) with ld := q } hb
   refine ⟨q2, ?_⟩
   rw [hq2, YQ]; rfl
  ·have hd : ∀ l : List Cell, (c :: cs) = (c :: cs).takeWhile uG ++ (c :: cs).dropWhile uG := fun _ => (List.takeWhile_append_dropWhile ..).symm
   have hdl : ((c :: cs).dropWhile uG).length ≤ m := by
    rw [List.dropWhile_cons_of_pos h]
    exact Nat.le_trans (List.dropWhile_sublist _).length_le hm'
   obtain ⟨h1, h2⟩ := Ik m ((c :: cs).dropWhile uG) hdl (fun x hx => hw x ((List.dropWhile_sublist _).subset hx))
   have ho : ji ((c :: cs).flatMap ig) = .ok (⟨0, 0, 0, false, [], ((c :: cs).takeWhile uG).map BH⟩, ((c :: cs).dropWhile uG).flatMap ig) := by
    rw [← (LP (c :: cs)).1, ← (LP (c :: cs)).2, List.flatMap_cons, (Ij h).1, List.singleton_append]
    show (if dX (BH c) = true then _ else _) = _
    rw [if_pos (aaO c)]
   rw [wJ (by rw [List.flatMap_cons, (Ij h).1]; exact List.cons_ne_nil _ _) ho]
   refine ⟨h1, fun b hb => ?_⟩
   have hall : ∀ x ∈ (c :: cs).takeWhile uG, uG x = true := fun x hx => by
    have := List.all_takeWhile (p := uG) (l := c :: cs)
    exact List.all_eq_true.1 this x hx
   have hq : qL ⟨0, 0, 0, false, [], ((c :: cs).takeWhile uG).map BH⟩ b = ({ zx (((c :: cs).takeWhile uG).map lK) b with ld := CU ⟨0, 0, 0, false, [], ((c :: cs).takeWhile uG).map BH⟩ }, 0) := by
    rw [← afF hb _ hall]; rfl
   rw [PK hq]
   obtain ⟨q2, hq2⟩ := h2 { zx (((c :: cs).takeWhile uG).map lK) b with ld := CU ⟨0, 0, 0, false, [], ((c :: cs).takeWhile uG).map BH⟩ } (by show (zx _ b).lk = zc; rw [ajn, hb])
   refine ⟨q2, ?_⟩
   rw [hq2, YQ]
   have he : (c :: cs).map lK = ((c :: cs).takeWhile uG).map lK ++ ((c :: cs).dropWhile uG).map lK := by rw [← List.map_append, List.takeWhile_append_dropWhile]
   rw [he]
   unfold zx
   rw [List.foldl_append]
theorem VT {n : Nat} : ∀ (l : List Cell) (k : Nat) (b : Br), k + l.length = n → b.at' = (k : Int) % (n : Int) → b.cs.length = n → (zx l b).cs = b.cs.take k ++ l ∧ (zx l b).cur = b.cur
 | [], k, b, hk, _, hl => by
  refine ⟨?_, rfl⟩
  show b.cs = _
  rw [List.append_nil, List.take_of_length_le (by simp at hk; omega)]
 | x :: l, k, b, hk, ha, hl => by
  simp only [List.length_cons] at hk
  have hat : b.at' = (k : Int) := by rw [ha]; exact Int.emod_eq_of_lt (by omega) (by omega)
  have hset : (nJ b x).cs = b.cs.set k x := by
   show iC b.cs b.at' x = _
   rw [GG x (by omega) (by omega), hat]; rfl
  obtain ⟨h1, h2⟩ := VT (n := n) l (k + 1) (nJ b x) (by omega) (by show (b.at' + 1) % (b.cs.length : Int) = _; rw [hat, hl]; rfl) (by rw [hset, List.length_set]; exact hl)
  refine ⟨?_, h2⟩
  show (zx l (nJ b x)).cs = _
  rw [h1, hset, List.take_add_one, List.getElem?_set_self (by omega), List.take_set_of_le (Nat.le_refl k)]
  simp
theorem afG (c : Cell) : ig (lK c) = ig c := by
 obtain ⟨cb, ge, st, l, co⟩ := c
 cases st
 ·cases ge
  ·show (if dX (if dX cb = true then cb else 64) = true then [if dX cb = true then cb else 64] else [64]) = if dX cb = true then [cb] else [64]
   by_cases hp : dX cb = true
   ·simp only [if_pos hp]
   ·simp only [if_neg hp]; rfl
  ·show (if (if cb < 64 then 64 else cb) < 64 then [8, 64] else [8, if cb < 64 then 64 else cb]) = if cb < 64 then [8, 64] else [8, cb]
   by_cases hp : cb < 64
   ·simp only [if_pos hp]; rfl
   ·simp only [if_neg hp]
 ·show [29, jV (cb % 64)] = [29, jV cb]
  rw [adn]
theorem VU (cs : List Cell) : (cs.map lK).flatMap ig = cs.flatMap ig := by
 induction cs with
 | nil => rfl
 | cons c cs ih => rw [List.map_cons, List.flatMap_cons, List.flatMap_cons, afG, ih]
theorem afH {r c : Int} {cs : List Cell} (hz : aY r c ≠ 0) (hn : (aY r c).toNat = cs.length) (hw : ∀ x ∈ cs, 0 ≤ x.b) :
  (uK (uM r c) (245 :: 192 :: cs.flatMap ig)).2.er = 0 ∧ (uK (uM r c) (245 :: 192 :: cs.flatMap ig)).1.cs = cs.map lK := by
 obtain ⟨h1, h2⟩ := Ik cs.length cs (Nat.le_refl _) hw
 have hp : iJ (245 :: 192 :: cs.flatMap ig).length (245 :: 192 :: cs.flatMap ig) = (⟨⟨245, 192, (gu (cs.flatMap ig)).1, (gu (cs.flatMap ig)).2⟩, []⟩, 0) := rfl
 rw [Vk hp rfl]
 have hd : zy (uM r c) ⟨⟨245, 192, (gu (cs.flatMap ig)).1, (gu (cs.flatMap ig)).2⟩, []⟩ = iT (uM r c) ⟨245, 192, (gu (cs.flatMap ig)).1, (gu (cs.flatMap ig)).2⟩ 0 := rfl
 rw [hd]
 obtain ⟨q, hq⟩ := h2 (DW (bP (uM r c) 0) 0) rfl
 have hl : FT r c = (DW (bP (uM r c) 0) 0).cs := rfl
 have hll : (DW (bP (uM r c) 0) 0).cs.length = cs.length := by rw [← hl, AC, hn]
 have h3 := VT (n := cs.length) (cs.map lK) 0 (DW (bP (uM r c) 0) 0) (by rw [List.length_map, Nat.zero_add]) (by show (0 : Int) = _; simp) hll
 unfold iT qM
 dsimp only
 rw [hq]
 refine ⟨?_, by show (zx _ _).cs = _; rw [h3.1, List.take_zero, List.nil_append]⟩
 rw [if_pos rfl, h1]
 rfl
theorem Il (cs : List Cell) (cur : Int) : (vT cs cur 96).drop 3 = cs.flatMap ig := by
 unfold vT
 have h := Oa cur cs.length
 rw [List.cons_append, List.drop_succ_cons, List.drop_append_of_le_length (by omega), List.drop_of_length_le (by omega), List.nil_append]
theorem ado (cs : List Cell) (cur x : Int) : 3 ≤ (vT cs cur x).length := by
 unfold vT
 rw [List.length_append, List.length_cons, Oa]; omega
theorem aol {cs : List Cell} (h : je cs) : Bs (245 :: 192 :: cs.flatMap ig) := by
 have h1 := ajo (cur := 0) (x := 96) h (by decide)
 have h2 := Il cs 0
 intro y hy
 rcases List.mem_cons.1 hy with rfl | hy
 ·decide
 rcases List.mem_cons.1 hy with rfl | hy
 ·decide
 ·rw [← h2] at hy; exact h1 y (List.mem_of_mem_drop hy)
theorem alC {cs : List Cell} {i : Int} (h : 0 ≤ i ∧ i < cs.length) : bH (cs.map lK) i = lK (bH cs i) := by
 unfold bH
 rw [if_pos h, if_pos (by rw [List.length_map]; exact h)]
 rw [List.getD_eq_getElem?_getD, List.getD_eq_getElem?_getD, List.getElem?_map, List.getElem?_eq_getElem (by omega)]
 rfl
theorem alD (c : Cell) : (lK c).st = c.st := by
 unfold lK
 cases hs : c.st
 ·simp only [Bool.false_eq_true, if_false]; split <;> rfl
 ·rfl
theorem alE {c : Cell} (h : c.st = true) : (lK c).b = c.b % 64 := by unfold lK; rw [if_pos h]
theorem alF {c : Cell} (h : c.st = false) : (lK c).ge = c.ge := by
 unfold lK
 rw [h]
 cases hg : c.ge <;> rfl
theorem alG {c : Cell} (h : Gc c) : (lK c).ge = c.ge := by
 cases hs : c.st
 ·exact alF hs
 ·rw [h hs]; unfold lK; rw [if_pos hs]
theorem adp {c : Cell} (h : c.st = false) (hb : 64 ≤ c.b) : (lK c).b = c.b := by
 unfold lK
 rw [h]
 simp only [Bool.false_eq_true, if_false]
 split
 ·show (if c.b < 64 then 64 else c.b) = c.b; rw [if_neg (by omega)]
 ·show (if dX c.b = true then c.b else 64) = c.b; rw [if_pos (by unfold dX; rw [decide_eq_true hb]; rfl)]
end Gs
end
section
namespace Go.Sh
open Go
variable {P : Program} {w : World}
theorem age {α : Type} {f : α → List Value} {t m n cap : Nat} (hf : Enc f m) {A : Option Addr} {l : List α} {lo : Int} (ht : yR P t = some m) (hr : Rd w A (rows f l)) (hl : n = l.length) (h0 : 0 ≤ lo) (h1 : lo ≤ n) (hc : n ≤ cap) :
  ∃ A' c', (∀ w', (Instr.sliceAt t (.slice A n cap) (some (.int .i64 lo)) none none).run P w' = .ok (.slice A' (n - lo.toNat) c') w') ∧ Rd w A' (rows f (l.drop lo.toNat)) ∧ (∀ k, fC A' k → fC A k) ∧ n - lo.toNat ≤ c' := by
 unfold yR at ht
 split at ht
 ·rename_i e hu
  have hel : P.elem t = e := by simp [Program.elem, hu]
  have hu' : P.underlying t = some (.slice (P.elem t)) := by rw [hel]; exact hu
  refine ⟨if cap = lo.toNat then A else A.map (·.add (lo.toNat * m)), cap - lo.toNat, fun w' => ?_, ?_, ?_, by omega⟩
  ·have hr1 := run_slice_l (P := P) w' t A n cap hu' .i64 lo h0 h1
   rw [sK (P := P) (w := w') (by rw [hel]; exact ht)] at hr1
   have hr2 := run_sliceAt_slice (P := P) w' t (.slice A n cap) (some (.int .i64 lo)) none none hu'
   rw [hr1] at hr2
   exact hr2
  ·subst hl
   rw [← KG hf]
   by_cases he : cap = lo.toNat
   ·have : lo.toNat = l.length := by omega
    left
    exact List.drop_eq_nil_of_le (by rw [iQ hf, this]; exact Nat.le_refl _)
   ·rw [if_neg he]
    cases A with
    | none =>
     rcases hr with hx | ⟨a, ha, _⟩
     ·left; rw [hx]; simp
     ·cases ha
    | some a => exact hr.drop _
  ·intro k hk
   split at hk
   ·exact hk
   ·obtain ⟨a, ha, rfl⟩ := hk
    cases A with
    | none => cases ha
    | some a0 => cases ha; exact ⟨a0, rfl, by rw [add_block]⟩
 ·cases ht
theorem WF {t n cap : Nat} {A : Option Addr} {k : IntKind} {l : List Int} {lo : Int} (ht : yR P t = some 1) (hr : Rd w A (vals k l)) (hl : n = l.length) (h0 : 0 ≤ lo) (h1 : lo ≤ n) (hc : n ≤ cap) :
  ∃ A' c', (∀ w', (Instr.sliceAt t (.slice A n cap) (some (.int .i64 lo)) none none).run P w' = .ok (.slice A' (n - lo.toNat) c') w') ∧ Rd w A' (vals k (l.drop lo.toNat)) := by
 rw [← QK] at hr
 obtain ⟨A', c', h2, h3, _⟩ := age (encI k) ht hr hl h0 h1 hc
 rw [QK] at h3
 exact ⟨A', c', h2, h3⟩
end Go.Sh
namespace Gs
open Go Go.Sh
end Gs
namespace Gs
open Go Go.Sh
end Gs
namespace Gs
open Go Go.Sh
theorem Cl.take {w : World} {l : List It} (h : Cl w l) (n : Nat) : Cl w (l.take n) := fun x hx => h x (List.mem_of_mem_take hx)
theorem Cl.drop {w : World} {l : List It} (h : Cl w l) (n : Nat) : Cl w (l.drop n) := fun x hx => h x (List.mem_of_mem_drop hx)
end Gs
namespace Gs
open Go Go.Sh
end Gs
end
section
namespace Go.Proofs.YtjdoakbadehicaaGreatDoor
open Go Go.Sh
set_option maxRecDepth 100000
theorem O0 {r c : Int} {ds : List Gs.jU} {dA : Option Addr} {dc : Nat} {gT : Nat} {eT : TypeId} {fT : Nat × Nat} {w : World} (hgT : Tryz.prog.globalNamed "internal/strconv.uint64pow10" = some gT) (cZ : w.heap[gT]? = some (.cells Gs.vU eT fT)) (dK : Rd w dA (rows Gs.de ds)) (dL : Gs.pO w ds) (hdw : Gs.Ah ds) (hdn : ds.length ≤ maxLen) (hok : ¬ Gs.uh r c ds) :
    oX 6 #[.agg #[Z.i r, Z.i c], .slice dA ds.length dc] w fun e w' => e = .returned (.bool true) ∧ aB no w w' := by
 refine F6.calls ?_
 unfold F6
 have hF : aB no w w := Fr.refl _ _ _
 refine Z.x (#[Z.i r, Z.i c]) (fun b1 w1 e1 ah _ U1 => ?_)
 replace cZ := U1.af cZ
 refine o9 (pY hgT cZ) (rfl) (fun w2 U2 => ?_)
 refine ak (jE) ?_
 refine aW ?_
 refine o9 (nz) (rfl) (fun w3 U3 => ?_)
 refine aW ?_
 refine ak (jE) ?_
 refine aQ (aH ?_)
 replace ah := U3.af (U2.af ah)
 refine Z.b 2 (#[Z.i r, Z.i c]) ah ?_
 replace dK := ((dK.ai U1).ai U2).ai U3
 replace dL := ((dL.ai U1).ai U2).ai U3
 refine aA (Dh dK dL hdw hdn hok) (fun w4 U4 => ?_)
 refine Z.e ?_
 refine Z.e ?_
 refine Z.e ?_
 refine ak (mY) ?_
 refine aK ?_
 replace hF := (((hF.go0 U1).go0 U2).go0 U3).go0 U4
 exact ⟨rfl, hF⟩
set_option maxHeartbeats 4000000 in
theorem O1 {r c : Int} {ds : List Gs.jU} {dA : Option Addr} {dc : Nat} {gT : Nat} {eT : TypeId} {fT : Nat × Nat} {w : World} (hgT : Tryz.prog.globalNamed "internal/strconv.uint64pow10" = some gT) (cZ : w.heap[gT]? = some (.cells Gs.vU eT fT)) (dK : Rd w dA (rows Gs.de ds)) (dL : Gs.pO w ds) (hdw : Gs.Ah ds) (hdn : ds.length ≤ maxLen) (hok : Gs.uh r c ds) :
    oX 6 #[.agg #[Z.i r, Z.i c], .slice dA ds.length dc] w fun e w' => e = .returned (.bool true) ∧ aB no w w' := by
 refine F6.calls ?_
 unfold F6
 have ZJ := aj cZ
 have aeW := dK.lt
 have aeX := dL.lt
 have hF : aB no w w := Fr.refl _ _ _
 refine Z.x (#[Z.i r, Z.i c]) (fun b1 w1 e1 ah _ U1 => ?_)
 have XM : gT ≠ b1 := by have := aj cZ; omega
 have TW := dK.apart e1
 have TY := dL.apart e1
 have bY : w.heap.size ≤ b1 := by have := hF.size; omega
 replace cZ := U1.af cZ
 refine o9 (pY hgT cZ) (rfl) (fun w2 U2 => ?_)
 refine ak (jE) ?_
 refine aW ?_
 refine o9 (nz) (rfl) (fun w3 U3 => ?_)
 refine aW ?_
 refine ak (jE) ?_
 refine aQ (aH ?_)
 replace ah := U3.af (U2.af ah)
 refine Z.b 2 (#[Z.i r, Z.i c]) ah ?_
 replace dK := ((dK.ai U1).ai U2).ai U3
 replace dL := ((dL.ai U1).ai U2).ai U3
 refine aI (Di dK dL hdw hdn hok) (fun v4 w4 D4 => ?_)
 obtain ⟨s, bs, bk, bp, A, n, cp, st, why, tn, last, ins, rfl, gbs, gbk, gbp, hst, hS, hone, hn60, aC, ax, ag, ae, U4⟩ := D4
 have hW := hS.2
 obtain ⟨hn, hcw, hcu, hp, hN, hb⟩ := id hW
 replace cZ := U3.af (U2.af cZ)
 have Jf : gT ≠ bk := by have := aj cZ; omega
 have lZ := (dK.lt).ne (b := bk) (by omega)
 have l7 := (dL.lt).ne (b := bk) (by omega)
 have Jg : b1 ≠ bk := by have := aj ah; omega
 replace hF := ((hF.go0 U1).go0 U2).go0 U3
 have ww : w.heap.size ≤ bk := by have := hF.size; omega
 have Jh : gT ≠ bs := by have := aj cZ; omega
 have ru := (dK.lt).ne (b := bs) (by omega)
 have ry := (dL.lt).ne (b := bs) (by omega)
 have Ji : b1 ≠ bs := by have := aj ah; omega
 have aiF : w.heap.size ≤ bs := by have := hF.size; omega
 have yO : gT ≠ bp := by have := aj cZ; omega
 have Fq := (dK.lt).ne (b := bp) (by omega)
 have Fv := (dL.lt).ne (b := bp) (by omega)
 have AY : b1 ≠ bp := by have := aj ah; omega
 have qB : w.heap.size ≤ bp := by have := hF.size; omega
 have Hq : ¬ aG _ gT := fun h => by have := (Own.ge ae h).1; have := aj cZ; omega
 have yG : _ ∨ ∀ k, _ → ¬ aG _ k := (dK.lt).imp_right fun h k hk hs => by have := h k hk; have := (Own.ge ae hs).1; omega
 have yH : _ ∨ ∀ k, _ → ¬ aG _ k := (dL.lt).imp_right fun h k hk hs => by have := h k hk; have := (Own.ge ae hs).1; omega
 have Hr : ¬ aG _ b1 := fun h => by have := (Own.ge ae h).1; have := aj ah; omega
 replace ae := ae.mono (B' := w.heap.size) hF.size
 refine Z.e ?_
 refine Z.e ?_
 refine Z.e ?_
 refine ak (jE) ?_
 refine aH ?_
 refine aA (fJ ax) (fun w5 U5 => ?_)
 replace ae := ae.ai U5
 replace ag := U5.af ag
 refine aI (NC ag ae hn (x := 96) (by omega) hcw) (fun v6 w6 D6 => ?_)
 obtain ⟨fU, U6⟩ := D6
 obtain ⟨A35, c35, rfl, _⟩ := fU.bK
 replace ah := U5.af (U4.af ah)
 have akL : ¬ aG _ b1 := fun h => by have := (Own.ge fU h).1; have := aj ah; omega
 replace ax := U5.af ax
 have akM : ¬ aG _ bs := fun h => by have := (Own.ge fU h).1; have := aj ax; omega
 have akN : ¬ aG _ bp := fun h => by have := (Own.ge fU h).1; have := aj ag; omega
 have aiP : ∀ k, aG _ k → ¬ aG _ k := fun k hk hs => by have := (Own.ge ae hk).2; have := (Own.ge fU hs).1; omega
 replace hF := (hF.go0 U4).go0 U5
 replace fU := fU.mono (B' := w.heap.size) hF.size
 have hdl : ((Gs.vT s.cs s.cur 96).drop (Int.toNat 3)).length ≤ 39997 := by rw [List.length_drop, show Int.toNat 3 = 3 from rfl]; have := Gs.WE (cs := s.cs) (cur := s.cur) (x := 96) (by omega); omega
 have hb3 := Gs.ado s.cs s.cur 96
 have hbl := Gs.WE (cs := s.cs) (cur := s.cur) (x := 96) (by omega)
 have hbd : (Gs.vT s.cs s.cur 96).drop (Int.toNat 3) = s.cs.flatMap Gs.ig := Gs.Il s.cs s.cur
 have hn2 : (Gs.aY r c).toNat = s.cs.length := by have h := hS.2.2.2.2.2.1; rw [hone.1.2.2.1, hone.1.2.2.2] at h; omega
 have hec := Gs.afH hok.1 hn2 (fun x hx => (hcw x hx).1)
 replace ah := U6.af ah
 refine Z.b 2 (#[Z.i r, Z.i c]) ah ?_
 refine Z.b 2 (#[Z.i r, Z.i c]) ah ?_
 refine aI (zK (r0 := r) (c0 := c) (r1 := r) (c1 := c) hok.1 hok.1) (fun v7 w7 D7 => ?_)
 replace hF := hF.go0 U6
 have qF39 := hF.size
 obtain ⟨bs2, bp2, gg, rfl, gbs2, gbp2, iY, nR, fQ, U7⟩ := D7
 have ae6 : b1 ≠ bs2 := by have := aj ah; omega
 replace ax := U6.af ax
 have ae7 : bs ≠ bs2 := by have := aj ax; omega
 replace ag := U6.af ag
 have ae8 : bp ≠ bs2 := by have := aj ag; omega
 replace ae := ae.ai U6
 have XN : ∀ k, aG _ k → k ≠ bs2 := fun k hk => by have := (Own.ge ae hk).2; omega
 have XO : ∀ k, aG _ k → k ≠ bs2 := fun k hk => by have := (Own.ge fU hk).2; omega
 have ge_bs2 : w.heap.size ≤ bs2 := by have := hF.size; omega
 have ae9 : b1 ≠ bp2 := by have := aj ah; omega
 have afa : bs ≠ bp2 := by have := aj ax; omega
 have afb : bp ≠ bp2 := by have := aj ag; omega
 have XP : ∀ k, aG _ k → k ≠ bp2 := fun k hk => by have := (Own.ge ae hk).2; omega
 have XQ : ∀ k, aG _ k → k ≠ bp2 := fun k hk => by have := (Own.ge fU hk).2; omega
 have BN : w.heap.size ≤ bp2 := by have := hF.size; omega
 have aiQ : ¬ aG _ b1 := fun h => by have := (Own.ge fQ h).1; have := aj ah; omega
 have aiR : ¬ aG _ bs := fun h => by have := (Own.ge fQ h).1; have := aj ax; omega
 have aiS : ¬ aG _ bp := fun h => by have := (Own.ge fQ h).1; have := aj ag; omega
 have O3 : ∀ k, aG _ k → ¬ aG _ k := fun k hk hs => by have := (Own.ge ae hk).2; have := (Own.ge fQ hs).1; omega
 have O4 : ∀ k, aG _ k → ¬ aG _ k := fun k hk hs => by have := (Own.ge fU hk).2; have := (Own.ge fQ hs).1; omega
 replace fQ := fQ.mono (B' := w.heap.size) hF.size
 replace fQ := fQ.mono (B' := w.heap.size) (by omega)
 refine Z.e ?_
 refine Z.e ?_
 refine dG (e := 5) (m := 1) (z := #[Z.u 0]) (by kernel_rfl) (by kernel_rfl) (by rfl) (by decide) (by (simp [eH, splice, fO, Value.cells, Gs.cv, Gs.fv, Gs.ie, Gs.pe, Gs.oe, Gs.cu, Gs.fe, Gs.eY, Gs.ce, Gs.dZ, Gs.re, Gs.de, Gs.ie]; rfl)) (fun b8 w8 e8 lI _ U8 => ?_)
 replace ah := U7.af ah
 have AX : b1 ≠ b8 := by have := aj ah; omega
 replace ax := U7.af ax
 have O5 : bs ≠ b8 := by have := aj ax; omega
 replace ag := U7.af ag
 have wY : bp ≠ b8 := by have := aj ag; omega
 replace ae := ae.ai U7
 have rq := ae.apart e8
 replace fU := fU.ai U7
 have Gn := fU.apart e8
 have LD : bs2 ≠ b8 := by have := aj iY; omega
 have LG : bp2 ≠ b8 := by have := aj nR; omega
 have ED := fQ.apart e8
 replace hF := hF.go0 U7
 have Fa : w.heap.size ≤ b8 := by have := hF.size; omega
 have QI := Own.of_block (B := w.heap.size) (n := 2) (xs := vals .u8 [245, 192]) (size := 1) lI Fa rfl (by decide)
 have akO := (show ¬ aG (.slice (some ⟨b8, 0, none⟩) 2 2) b1 from (fun hs => by cases hs; exact AX rfl))
 have akP := (show ¬ aG (.slice (some ⟨b8, 0, none⟩) 2 2) bs from (fun hs => by cases hs; exact O5 rfl))
 have akQ := (show ¬ aG (.slice (some ⟨b8, 0, none⟩) 2 2) bp from (fun hs => by cases hs; exact wY rfl))
 have aiT := (show ∀ k, aG _ k → ¬ aG (.slice (some ⟨b8, 0, none⟩) 2 2) k from (fun k hk hs => by cases hs; exact rq _ hk rfl))
 have aiU := (show ∀ k, aG _ k → ¬ aG (.slice (some ⟨b8, 0, none⟩) 2 2) k from (fun k hk hs => by cases hs; exact Gn _ hk rfl))
 have aiV := (show ¬ aG (.slice (some ⟨b8, 0, none⟩) 2 2) bs2 from (fun hs => by cases hs; exact LD rfl))
 have aiW := (show ¬ aG (.slice (some ⟨b8, 0, none⟩) 2 2) bp2 from (fun hs => by cases hs; exact LG rfl))
 have ag3 := (show ∀ k, aG _ k → ¬ aG (.slice (some ⟨b8, 0, none⟩) 2 2) k from (fun k hk hs => by cases hs; exact ED _ hk rfl))
 replace fU := fU.ai U8
 refine tV (by kernel_rfl) fU.xW (by rfl) (by omega) (by omega) fU.Ll (fun A9 aan hA9 => ?_)
 have lt_rd45 := aan.lt
 replace hF := hF.go0 U8
 refine jG (e := 5) (size := 1) (bytes := 1) (by kernel_rfl) QI aan (by (simp [vals_length]; done)) rG (by simp only [vals_length, List.length_take, List.length_cons, List.length_nil, List.length_append, List.length_map, List.length_range]; omega) (by have := hF.size; omega) (fun v10 w10 N10 hA10 aX => ?_)
 have XR := QI
 replace ah := U8.af ah
 have aqi := BG (S' := w8) (fun hs => by cases hs; exact AX rfl) ah hA10
 replace ax := U8.af ax
 have aqj := BG (S' := w8) (fun hs => by cases hs; exact O5 rfl) ax hA10
 replace ag := U8.af ag
 have aqk := BG (S' := w8) (fun hs => by cases hs; exact wY rfl) ag hA10
 replace ae := ae.ai U8
 have ao7 := yc (S' := w8) (fun k hk hs => by cases hs; exact rq _ hk rfl) ae hA10
 have ao8 := yc (S' := w8) (fun k hk hs => by cases hs; exact Gn _ hk rfl) fU hA10
 replace iY := U8.af iY
 have ao9 := BG (S' := w8) (fun hs => by cases hs; exact LD rfl) iY hA10
 replace nR := U8.af nR
 have apa := BG (S' := w8) (fun hs => by cases hs; exact LG rfl) nR hA10
 replace fQ := fQ.ai U8
 have aoe := yc (S' := w8) (fun k hk hs => by cases hs; exact ED _ hk rfl) fQ hA10
 replace ah := aX.get ah (fun hs => by cases hs; exact AX rfl)
 replace ax := aX.get ax (fun hs => by cases hs; exact O5 rfl)
 replace ag := aX.get ag (fun hs => by cases hs; exact wY rfl)
 replace ae := ae.dO aX (fun k hk hs => by cases hs; exact rq _ hk rfl)
 replace fU := fU.dO aX (fun k hk hs => by cases hs; exact Gn _ hk rfl)
 replace iY := aX.get iY (fun hs => by cases hs; exact LD rfl)
 replace nR := aX.get nR (fun hs => by cases hs; exact LG rfl)
 replace fQ := fQ.dO aX (fun k hk hs => by cases hs; exact ED _ hk rfl)
 replace QI := N10
 replace hF := hF.go aX (fun i h hs => by (have := (Own.ge XR hs).1; omega))
 clear XR
 have MJ := QI
 rw [ui, hbd] at MJ
 replace MJ : Own _ _ _ _ _ (vals .u8 (245 :: 192 :: s.cs.flatMap Gs.ig)) := MJ
 obtain ⟨A46, c46, rfl, _⟩ := MJ.bK
 have hEl : (245 :: 192 :: s.cs.flatMap Gs.ig).length ≤ 100000 := by rw [← hbd]; simp only [List.length_cons]; omega
 have hEb : Bs (245 :: 192 :: s.cs.flatMap Gs.ig) := Gs.aol hcw
 refine aI (xq (s := Gs.uM r c) (b := (245 :: 192 :: s.cs.flatMap Gs.ig)) iY nR fQ (Gs.G5 hok.1) (by have := hF.size; omega) MJ.xW rfl MJ.Ll hEb hEl (.inr (fun k hk hs => (show ∀ k, aG (.slice (some ⟨gg, 0, none⟩) _ _) k → ¬ aG (.slice A46 (245 :: 192 :: s.cs.flatMap Gs.ig).length c46) k from by assumption) k hs (G7 hk))) (.inr (fun k hk e => (show ¬ aG (.slice A46 (245 :: 192 :: s.cs.flatMap Gs.ig).length c46) bp2 from by assumption) (e ▸ G7 hk))) (.inr (fun k hk e => (show ¬ aG (.slice A46 (245 :: 192 :: s.cs.flatMap Gs.ig).length c46) bs2 from by assumption) (e ▸ G7 hk)))) (fun v11 nT D11 => ?_)
 have xy := fQ
 have qF11 := hF.size
 obtain ⟨rfl, bp47, A47, n47, cp47, iY, iZ, gJ, hn47, hb47, ho47, bD⟩ := D11
 obtain ⟨s2, hs2⟩ : ∃ s2, s2 = (Gs.uK (Gs.uM r c) (245 :: 192 :: s.cs.flatMap Gs.ig)).1 := ⟨_, rfl⟩
 rw [← hs2] at iY iZ gJ hn47
 have hcs2 : s2.cs = (s.cs.map Gs.lK) := hs2 ▸ hec.2
 have hW2 : Gs.Pw s2.r s2.c n47 s2.cs s2.cur := by subst hs2; rw [hn47]; exact ((Gs.G5 hok.1).run hEb).2
 clear hs2
 rw [hcs2] at gJ hn47 hW2
 obtain ⟨hn3, hcw3, hcu3, hp3, hN3, hb3⟩ := id hW2
 have gbp47 : w.heap.size ≤ bp47 := by rcases hb47 with e | e <;> omega
 replace ah := bD.get ah (fun hs => by rcases hs with (hs | hs) | hs <;> first | (first | exact Own.aT xy ah (by decide) _ hs rfl | (have := Own.ge xy hs; omega)) | (exact absurd hs ae9) | (exact absurd hs ae6))
 replace ax := bD.get ax (fun hs => by rcases hs with (hs | hs) | hs <;> first | (first | exact Own.aT xy ax (by decide) _ hs rfl | (have := Own.ge xy hs; omega)) | (exact absurd hs afa) | (exact absurd hs ae7))
 replace ag := bD.get ag (fun hs => by rcases hs with (hs | hs) | hs <;> first | (first | exact Own.aT xy ag (by decide) _ hs rfl | (have := Own.ge xy hs; omega)) | (exact absurd hs afb) | (exact absurd hs ae8))
 replace ae := ae.dO bD (fun k hk hs => by rcases hs with (hs | hs) | hs <;> first | (exact O3 k hk hs) | (exact absurd hs ((show ∀ k, _ → k ≠ bp2 from XP) k hk)) | (exact absurd hs ((show ∀ k, _ → k ≠ bs2 from XN) k hk)))
 replace fU := fU.dO bD (fun k hk hs => by rcases hs with (hs | hs) | hs <;> first | (exact O4 k hk hs) | (exact absurd hs ((show ∀ k, _ → k ≠ bp2 from XQ) k hk)) | (exact absurd hs ((show ∀ k, _ → k ≠ bs2 from XO) k hk)))
 replace hF := hF.go bD (fun i hi hs => by (rcases hs with (hs | hs) | hs <;> first | (subst hs; omega) | (have := (Own.ge xy hs).1; omega)))
 clear xy
 refine Z.n ((Gs.re Gs.qw).toArray) (fun b12 w12 e12 bV _ bW => ?_)
 have Tu : b1 ≠ b12 := by have := aj ah; omega
 have oz : bs ≠ b12 := by have := aj ax; omega
 have TF : bp ≠ b12 := by have := aj ag; omega
 have Lj := ae.apart e12
 have EE := fU.apart e12
 have Jk : bs2 ≠ b12 := by have := aj iY; omega
 have Gp : bp47 ≠ b12 := by have := aj iZ; omega
 have Bd := gJ.apart e12
 have pR : w.heap.size ≤ b12 := by have := hF.size; omega
 refine Z.t 4 ((Gs.re (Gs.uK (Gs.uM r c) (245 :: 192 :: s.cs.flatMap Gs.ig)).2).toArray) (by (simp [Value.cells, Value.oneCell', Gs.cv, Gs.fv, Gs.ie, Gs.pe, Gs.oe, Gs.cu, Gs.fe, Gs.eY, Gs.ce, Gs.dZ, Gs.re, Gs.de, Gs.ie]; done)) bV (fun ve bV _ dC => ?_)
 refine Z.f 3 ?_
 refine Z.l bV ?_
 refine jQ (jO _ _ _ _ _) (fun h => h hec.1) ?_
 refine aH ?_
 refine bQ (fun g w' => (Z.h w' bs2 #[Z.i s2.r0, Z.i s2.c0, Z.i s2.r1, Z.i s2.c1, Z.i s2.wh, Z.p bp47] 89) ∧ (Z.h w' bp47 #[Z.i s2.r, Z.i s2.c, .slice A47 n47 cp47, Z.i s2.cur] 91) ∧ (Own w.heap.size w' 37 5 (.slice A47 n47 cp47) (rows Gs.cv (s.cs.map Gs.lK))) ∧ (Own w.heap.size w' 5 1 (.slice A35 (Gs.vT s.cs s.cur 96).length c35) (vals .u8 (Gs.vT s.cs s.cur 96))) ∧ (aB no w w')) (fun J1 hJ1 => ?_) (fun gJ1 jY hI => ?_)
 replace ae := (ae.ai bW).aF dC Lj
 replace ag := dC.au (bW.af ag) TF
 refine aA (fH ag ae hn) (fun rF bZ => ?_)
 refine eG (fun g w' => ∃ (k : Nat), (g 53 = Z.i (k : Int)) ∧ (k ≤ n) ∧ (Z.h w' bp #[Z.i s.r, Z.i s.c, .slice A n cp, Z.i s.cur] 91) ∧ (Own w.heap.size w' 37 5 (.slice A n cp) (rows Gs.cv s.cs)) ∧ (Z.h w' bs2 #[Z.i s2.r0, Z.i s2.c0, Z.i s2.r1, Z.i s2.c1, Z.i s2.wh, Z.p bp47] 89) ∧ (Z.h w' bp47 #[Z.i s2.r, Z.i s2.c, .slice A47 n47 cp47, Z.i s2.cur] 91) ∧ (Own w.heap.size w' 37 5 (.slice A47 n47 cp47) (rows Gs.cv (s.cs.map Gs.lK))) ∧ (Own w.heap.size w' 5 1 (.slice A35 (Gs.vT s.cs s.cur 96).length c35) (vals .u8 (Gs.vT s.cs s.cur 96))) ∧ (aB no w w')) (fun g w' => n - (RowKit.intOf (g 53)).toNat) ?_ (fun g2 qW hI => ?_)
 replace fU := ((fU.ai bW).aF dC EE).ai bZ
 replace gJ := ((gJ.ai bW).aF dC Bd).ai bZ
 replace iY := bZ.af (dC.au (bW.af iY) Jk)
 replace iZ := bZ.af (dC.au (bW.af iZ) Gp)
 replace hF := ((hF.go0 bW).go1 dC pR).go0 bZ
 replace ae := ae.ai bZ
 replace ag := bZ.af ag
 exact ⟨0, (by rfl), Nat.zero_le _, ag, ae, iY, iZ, gJ, fU, hF⟩
 replace fU := ((fU.ai bW).aF dC EE).ai bZ
 replace gJ := ((gJ.ai bW).aF dC Bd).ai bZ
 replace iY := bZ.af (dC.au (bW.af iY) Jk)
 replace iZ := bZ.af (dC.au (bW.af iZ) Gp)
 replace hF := ((hF.go0 bW).go1 dC pR).go0 bZ
 replace ae := ae.ai bZ
 replace ag := bZ.af ag
 obtain ⟨k, g53, hk, ag, ae, iY, iZ, gJ, fU, hF⟩ := hI
 rw [g53]
 have hgw := Gs.sO hcw (k : Int)
 refine az (lss _ _ _ _) (fun h15 => ?_) (fun h15 => ?_)
 refine aK ?_
 refine aA (gy ag ae hn (i := (k : Int))) (fun w16 bU => ?_)
 replace iY := bU.af iY
 refine aA (fJ iY) (fun vW di => ?_)
 replace gJ := (gJ.ai bU).ai di
 replace iZ := di.af (bU.af iZ)
 refine aA (gy iZ gJ hn3 (i := (k : Int))) (fun xY dR => ?_)
 rw [Gs.alC (by omega)]
 refine Z.n ((Gs.cv Gs.zc).toArray) (fun b19 Ag e19 eu _ eU => ?_)
 replace ag := dR.af (di.af (bU.af ag))
 have FD : bp ≠ b19 := by have := aj ag; omega
 replace ae := ((ae.ai bU).ai di).ai dR
 have zZ := ae.apart e19
 replace iY := dR.af (di.af iY)
 have Dx : bs2 ≠ b19 := by have := aj iY; omega
 replace iZ := dR.af iZ
 have Bz : bp47 ≠ b19 := by have := aj iZ; omega
 replace gJ := gJ.ai dR
 have xJ := gJ.apart e19
 replace fU := ((fU.ai bU).ai di).ai dR
 have Aa := fU.apart e19
 replace hF := ((hF.go0 bU).go0 di).go0 dR
 have mQ : w.heap.size ≤ b19 := by have := hF.size; omega
 refine Z.n ((Gs.cv Gs.zc).toArray) (fun b20 xM e20 Bq _ dF => ?_)
 replace ag := eU.af ag
 have FH : bp ≠ b20 := by have := aj ag; omega
 replace ae := ae.ai eU
 have Ac := ae.apart e20
 replace iY := eU.af iY
 have Dy : bs2 ≠ b20 := by have := aj iY; omega
 replace iZ := eU.af iZ
 have BA : bp47 ≠ b20 := by have := aj iZ; omega
 replace gJ := gJ.ai eU
 have xK := gJ.apart e20
 replace fU := fU.ai eU
 have Ad := fU.apart e20
 have QJ : b19 ≠ b20 := by have := aj eu; omega
 replace hF := hF.go0 eU
 have La : w.heap.size ≤ b20 := by have := hF.size; omega
 replace eu := dF.af eu
 refine Z.t 5 ((Gs.cv (Gs.bH s.cs (k : Int))).toArray) (by (simp [Value.cells, Value.oneCell', Gs.cv, Gs.fv, Gs.ie, Gs.pe, Gs.oe, Gs.cu, Gs.fe, Gs.eY, Gs.ce, Gs.dZ, Gs.re, Gs.de, Gs.ie]; done)) eu (fun Cj eu _ dH => ?_)
 replace Bq := dH.au Bq (Ne.symm QJ)
 refine Z.t 5 ((Gs.cv (Gs.lK (Gs.bH s.cs (k : Int)))).toArray) (by (simp [Value.cells, Value.oneCell', Gs.cv, Gs.fv, Gs.ie, Gs.pe, Gs.oe, Gs.cu, Gs.fe, Gs.eY, Gs.ce, Gs.dZ, Gs.re, Gs.de, Gs.ie]; done)) Bq (fun Gq Bq _ eQ => ?_)
 refine Z.f 2 ?_
 replace eu := eQ.au eu QJ
 refine Z.l eu ?_
 refine Z.f 2 ?_
 refine Z.l Bq ?_
 refine jQ (neB _ _ (by kernel_rfl) _ _) (fun h => h (Gs.alD _).symm) ?_
 refine aW ?_
 refine Z.f 1 ?_
 refine aW ?_
 refine Z.l eu ?_
 refine aW ?_
 refine Z.f 1 ?_
 refine aW ?_
 refine Z.l Bq ?_
 refine aW ?_
 refine jQ (neB _ _ (by kernel_rfl) _ _) (fun h => h (Gs.alG (hone.2 _)).symm) ?_
 refine aQ (aW ?_)
 refine Z.f 2 ?_
 refine aW ?_
 refine oJ (kH (by kernel_rfl) eu (by rfl)) (fun h23 => ?_) (fun h23 => ?_)
 refine aW (aV ?_)
 refine Z.f 0 ?_
 refine aV ?_
 refine Z.l eu ?_
 refine aV ?_
 refine ak (Dz _ (by omega)) ?_
 refine aV ?_
 refine Z.f 0 ?_
 refine aV ?_
 refine Z.l Bq ?_
 refine aV ?_
 replace ae := ((ae.ai dF).aF dH zZ).aF eQ Ac
 replace gJ := ((gJ.ai dF).aF dH xJ).aF eQ xK
 replace fU := ((fU.ai dF).aF dH Aa).aF eQ Ad
 replace ag := eQ.au (dH.au (dF.af ag) FD) FH
 replace iY := eQ.au (dH.au (dF.af iY) Dx) Dy
 replace iZ := eQ.au (dH.au (dF.af iZ) Bz) BA
 replace hF := ((hF.go0 dF).go1 dH mQ).go1 eQ La
 refine jQ (jO _ _ _ _ _) (fun h => h (by rw [Gs.alE (by assumption)])) ?_
 refine aW (aU (aQ (aW ?_)))
 refine Z.f 2 ?_
 refine aW ?_
 refine oJ (kH (by kernel_rfl) eu (by rfl)) (fun h24 => ?_) (fun h24 => ?_)
 refine aW ?_
 refine ak (jE) ?_
 refine aW (aP (aP (aP (aP (aP (aW (aQ (aW (aP (aP (aP (aW (aQ (aQ (aH ?_)))))))))))))))
 refine ak (dJ _ (by omega)) ?_
 exact ⟨⟨k + 1, (by rfl), by omega, ag, ae, iY, iZ, gJ, fU, hF⟩, cnt_lt (by rfl) rfl (by omega)⟩
 refine aW ?_
 refine ak (mY) ?_
 refine aW (aV ?_)
 refine Z.f 0 ?_
 refine aV ?_
 refine Z.l eu ?_
 refine aV ?_
 refine Z.f 0 ?_
 refine aV ?_
 refine Z.l Bq ?_
 refine aV ?_
 refine az (jO _ _ _ _ _) (fun h25 => ?_) (fun h25 => ?_)
 refine aW (aU (aW (aV ?_)))
 refine Z.f 0 ?_
 refine aV ?_
 refine Z.l eu ?_
 refine aV ?_
 refine jQ (geq _ _ _ _) (fun h => absurd (Gs.adp (by assumption) h).symm (by assumption)) ?_
 refine aW (aU (aQ (aH ?_)))
 refine ak (dJ _ (by omega)) ?_
 exact ⟨⟨k + 1, (by rfl), by omega, ag, ae, iY, iZ, gJ, fU, hF⟩, cnt_lt (by rfl) rfl (by omega)⟩
 refine aW (aU (aW (aP (aP (aP (aW (aQ (aQ (aH ?_)))))))))
 refine ak (dJ _ (by omega)) ?_
 exact ⟨⟨k + 1, (by rfl), by omega, ag, ae, iY, iZ, gJ, fU, hF⟩, cnt_lt (by rfl) rfl (by omega)⟩
 refine aW (aP (aP (aP (aP (aP (aP (aW (aQ (aQ (aW ?_))))))))))
 refine Z.f 2 ?_
 refine aW ?_
 refine oJ (kH (by kernel_rfl) eu (by rfl)) (fun h26 => ?_) (fun h26 => ?_)
 refine aW ?_
 refine ak (jE) ?_
 refine aW (aP (aP (aP (aP (aP (aW (aQ (aW (aP (aP (aP (aW (aQ (aQ (aH ?_)))))))))))))))
 refine ak (dJ _ (by omega)) ?_
 replace ae := ((ae.ai dF).aF dH zZ).aF eQ Ac
 replace gJ := ((gJ.ai dF).aF dH xJ).aF eQ xK
 replace fU := ((fU.ai dF).aF dH Aa).aF eQ Ad
 replace ag := eQ.au (dH.au (dF.af ag) FD) FH
 replace iY := eQ.au (dH.au (dF.af iY) Dx) Dy
 replace iZ := eQ.au (dH.au (dF.af iZ) Bz) BA
 replace hF := ((hF.go0 dF).go1 dH mQ).go1 eQ La
 exact ⟨⟨k + 1, (by rfl), by omega, ag, ae, iY, iZ, gJ, fU, hF⟩, cnt_lt (by rfl) rfl (by omega)⟩
 refine aW ?_
 refine ak (mY) ?_
 refine aW (aV ?_)
 refine Z.f 0 ?_
 refine aV ?_
 refine Z.l eu ?_
 refine aV ?_
 refine Z.f 0 ?_
 refine aV ?_
 refine Z.l Bq ?_
 refine aV ?_
 refine az (jO _ _ _ _ _) (fun h27 => ?_) (fun h27 => ?_)
 refine aW (aU (aW (aV ?_)))
 refine Z.f 0 ?_
 refine aV ?_
 refine Z.l eu ?_
 refine aV ?_
 replace ae := ((ae.ai dF).aF dH zZ).aF eQ Ac
 replace gJ := ((gJ.ai dF).aF dH xJ).aF eQ xK
 replace fU := ((fU.ai dF).aF dH Aa).aF eQ Ad
 replace ag := eQ.au (dH.au (dF.af ag) FD) FH
 replace iY := eQ.au (dH.au (dF.af iY) Dx) Dy
 replace iZ := eQ.au (dH.au (dF.af iZ) Bz) BA
 replace hF := ((hF.go0 dF).go1 dH mQ).go1 eQ La
 refine jQ (geq _ _ _ _) (fun h => absurd (Gs.adp (by assumption) h).symm (by assumption)) ?_
 refine aW (aU (aQ (aH ?_)))
 refine ak (dJ _ (by omega)) ?_
 exact ⟨⟨k + 1, (by rfl), by omega, ag, ae, iY, iZ, gJ, fU, hF⟩, cnt_lt (by rfl) rfl (by omega)⟩
 refine aW (aU (aW (aP (aP (aP (aW (aQ (aQ (aH ?_)))))))))
 refine ak (dJ _ (by omega)) ?_
 replace ae := ((ae.ai dF).aF dH zZ).aF eQ Ac
 replace gJ := ((gJ.ai dF).aF dH xJ).aF eQ xK
 replace fU := ((fU.ai dF).aF dH Aa).aF eQ Ad
 replace ag := eQ.au (dH.au (dF.af ag) FD) FH
 replace iY := eQ.au (dH.au (dF.af iY) Dx) Dy
 replace iZ := eQ.au (dH.au (dF.af iZ) Bz) BA
 replace hF := ((hF.go0 dF).go1 dH mQ).go1 eQ La
 exact ⟨⟨k + 1, (by rfl), by omega, ag, ae, iY, iZ, gJ, fU, hF⟩, cnt_lt (by rfl) rfl (by omega)⟩
 refine aH ?_
 refine hJ1 _ _ ?_
 exact ⟨iY, iZ, gJ, fU, hF⟩
 replace fU := (fU.ai bW).aF dC EE
 replace gJ := (gJ.ai bW).aF dC Bd
 replace iY := dC.au (bW.af iY) Jk
 replace iZ := dC.au (bW.af iZ) Gp
 replace hF := (hF.go0 bW).go1 dC pR
 obtain ⟨iY, iZ, gJ, fU, hF⟩ := hI
 refine aA (fJ iY) (fun Vw jC => ?_)
 replace gJ := gJ.ai jC
 replace iZ := jC.af iZ
 refine aI (NC iZ gJ hn3 (x := 96) (by omega) hcw3) (fun v29 Ve D29 => ?_)
 obtain ⟨Ae, kK⟩ := D29
 obtain ⟨A107, c107, rfl, _⟩ := Ae.bK
 replace iY := jC.af iY
 have afg : ¬ aG _ bs2 := fun h => by have := (Own.ge Ae h).1; have := aj iY; omega
 have afc : ¬ aG _ bp47 := fun h => by have := (Own.ge Ae h).1; have := aj iZ; omega
 have acT : ∀ k, aG _ k → ¬ aG _ k := fun k hk hs => by have := (Own.ge gJ hk).2; have := (Own.ge Ae hs).1; omega
 replace fU := fU.ai jC
 have afh : ∀ k, aG _ k → ¬ aG _ k := fun k hk hs => by have := (Own.ge fU hk).2; have := (Own.ge Ae hs).1; omega
 replace hF := hF.go0 jC
 replace Ae := Ae.mono (B' := w.heap.size) hF.size
 have hb7 := Gs.ado (s.cs.map Gs.lK) s2.cur 96
 obtain ⟨A109, c109, hs109, MK⟩ := WF (P := Tryz.prog) (t := 24) (lo := 3) (by kernel_rfl) Ae.xW rfl (by omega) (by omega) Ae.Ll
 have arj := MK.lt
 replace fU := fU.ai kK
 obtain ⟨A112, c112, hs112, ML⟩ := WF (P := Tryz.prog) (t := 24) (lo := 3) (by kernel_rfl) fU.xW rfl (by omega) (by omega) fU.Ll
 have ark := ML.lt
 refine dV (S := no) (fun w30 qX => ?_)
 refine bI (fun w' hw' => (hs109 _)) ?_
 replace MK := MK.ai qX
 refine bI (fun w' hw' => by have MK := MK.ai hw'; exact (Xd (e := 5) (by kernel_rfl) (by kernel_rfl) (by kernel_rfl) MK (by (simp; done)))) ?_
 refine bI (fun w' hw' => (hs112 _)) ?_
 replace ML := ML.ai qX
 refine bI (fun w' hw' => by have ML := ML.ai hw'; exact (Xd (e := 5) (by kernel_rfl) (by kernel_rfl) (by kernel_rfl) ML (by (simp; done)))) ?_
 refine bI (fun w' hw' => (eqS _ _ _ _)) ?_
 refine aJ (fun w33 uI => ?_)
 have hfin : (Gs.vT (s.cs.map Gs.lK) s2.cur 96).drop (Int.toNat 3) = (Gs.vT s.cs s.cur 96).drop (Int.toNat 3) := (Gs.Il _ _).trans ((Gs.VU _).trans (Gs.Il _ _).symm)
 replace hF := ((hF.go0 kK).go0 qX).go0 uI
 exact ⟨congrArg (fun q => Ending.returned (.bool q)) (decide_eq_true (by rw [hfin])), hF⟩
theorem Uw {r c : Int} {ds : List Gs.jU} {dA : Option Addr} {dc : Nat} {gT : Nat} {eT : TypeId} {fT : Nat × Nat} {w : World} (hgT : Tryz.prog.globalNamed "internal/strconv.uint64pow10" = some gT) (cZ : w.heap[gT]? = some (.cells Gs.vU eT fT)) (dK : Rd w dA (rows Gs.de ds)) (dL : Gs.pO w ds) (hdw : Gs.Ah ds) (hdn : ds.length ≤ maxLen)  :
    oX 6 #[.agg #[Z.i r, Z.i c], .slice dA ds.length dc] w fun e w' => e = .returned (.bool true) ∧ aB no w w' := by
 by_cases hok : Gs.uh r c ds
 exact O1 hgT cZ dK dL hdw hdn hok
 exact O0 hgT cZ dK dL hdw hdn hok
end Go.Proofs.YtjdoakbadehicaaGreatDoor
end
section
namespace Go.Sh
open Go Go.ChangeShapes Go.WideShapes Go.RowKit
section
variable {H : Type} {enc : TypeId × Value → H} {P : Program} {w : World} {base : Nat} {spare : Nat → Bool} {held : Bool}
theorem YP {α : Type} {f : α → List Value} {m : Nat} {Q : α → Prop} (hf : Enc f m) {t e : TypeId} (ht : P.underlying t = some (.slice e)) (hc : P.cellsOf e = m) {fuel : Nat} {cs : List Value} {x : DataW H × List MemPlace}
  (hd : ∀ fuel cs x, DataW.trod enc P w base spare held fuel e cs = some x → ∃ a, cs = f a ∧ Q a) (hf1 : DataW.trod enc P w base spare held fuel t cs = some x) :
  ∃ (A : Option Addr) (len cap : Nat) (l : List α), cs = [.slice A len cap] ∧ Rd w A (rows f l) ∧ (∀ a ∈ l, Q a) ∧ len = l.length ∧ len ≤ cap ∧ cap ≤ maxLen := by
 rcases Go.Deep.open_slice ht hf1 with ⟨hcs, _⟩ | ⟨a, len, cap, m', n', D, Pl, hcs, _, hl, hm, hmm, _, hx⟩
 ·exact ⟨none, 0, 0, [], hcs, .inl rfl, (fun a ha => by cases ha), rfl, Nat.le_refl _, Nat.zero_le _⟩
 ·have hlm : len ≤ m' := by rw [hmm]; split <;> omega
  have key : ∀ k, k ≤ len → ∃ l : List α, l.length = k ∧ (∀ a ∈ l, Q a) ∧ ∀ i x, l[i]? = some x → w.cells? base (a.add (i * m)) m = some (f x) := by
   intro k
   induction k with
   | zero => intro _; exact ⟨[], rfl, (fun a ha => by cases ha), fun i x h => by simp at h⟩
   | succ k ih =>
    intro hk
    obtain ⟨l, h1, h2, h3⟩ := ih (by omega)
    obtain ⟨cs', h4, h5⟩ := hx k (by omega)
    obtain ⟨y, rfl, hq⟩ := hd _ _ _ h5
    refine ⟨l ++ [y], by simp [h1], fun b hb => ?_, fun i x hi => ?_⟩
    ·rcases List.mem_append.1 hb with hb | hb
     ·exact h2 b hb
     ·simp at hb; subst hb; exact hq
    ·by_cases hik : i < l.length
     ·rw [List.getElem?_append_left hik] at hi; exact h3 i x hi
     ·rw [List.getElem?_append_right (by omega)] at hi
      have hi0 : i - l.length = 0 := by
       have := (List.getElem?_eq_some_iff.1 hi).1
       simp at this; omega
      rw [hi0] at hi
      simp at hi
      subst hi
      have : i = k := by omega
      subst this
      rw [hc] at h4; exact h4
  obtain ⟨l, h1, h2, h3⟩ := key len (Nat.le_refl _)
  refine ⟨some a, len, cap, l, hcs, .inr ⟨a, rfl, fun j hj => ?_⟩, h2, h1.symm, hl, hm⟩
  rw [iQ hf] at hj
  have hm0 := hf.pos
  have hq : j / m < l.length := Nat.div_lt_of_lt_mul (by rw [Nat.mul_comm]; exact hj)
  have hr : j % m < m := Nat.mod_lt _ hm0
  have hj' : j = j / m * m + j % m := by have := Nat.div_add_mod j m; rw [Nat.mul_comm] at this; omega
  have hxl : l[j / m]? = some l[j / m] := List.getElem?_eq_getElem hq
  obtain ⟨_, _, h6⟩ := World.cells?_some (h3 _ _ hxl)
  have h7 := h6 (j % m) hr
  rw [add_add, ← hj'] at h7
  rw [h7, ← Y6 hf hxl, List.getElem?_take, if_pos hr, List.getElem?_drop, ← hj']
theorem fields_of {fs : Array Field} {t : TypeId} {fuel : Nat} {cs : List Value} {x : DataW H × List MemPlace} (ht : P.underlying t = some (.struct fs)) (h : DataW.trod enc P w base spare held fuel t cs = some x) :
  cs.length = P.cellsOf t ∧ ∃ n, ∀ (i : Nat) (f : Field), fs[i]? = some f → ∃ y, DataW.trod enc P w base spare held n f.type ((cs.drop f.offset).take (P.cellsOf f.type)) = some y := by
 obtain ⟨xs, n, _, _, hl, hx, hf⟩ := DataW.trod_struct ht h
 refine ⟨hl, n, fun i f hi => ?_⟩
 have hlt : i < xs.length := by rw [hx]; exact (Array.getElem?_eq_some_iff.1 hi).1
 exact ⟨xs[i], by rw [hf i f hi]; exact List.getElem?_eq_getElem hlt⟩
end
end Go.Sh
namespace Go.Proofs.YtjdoakbadehicaaGreatDoor
set_option maxRecDepth 100000
set_option linter.constructorNameAsVariable false
open Go Go.Sh Go.ChangeShapes Go.WideShapes Go.RowKit
section
variable {H : Type} {enc : TypeId × Value → H} {w : World} {base : Nat} {spare : Nat → Bool} {held : Bool}
theorem ahB {n : Int} (h : (Lit.int .u8 n).wf = true) : 0 ≤ n ∧ n ≤ 255 := by
 have h1 : (decide (0 ≤ n) && decide (n ≤ 255)) = true := h
 simpa using h1
end
theorem VJ : ∀ cs, pG [.int .i64, .int .u8] cs → ∃ a, cs = Gs.kv a ∧ Gs.Kw a := by
 rintro cs ⟨_, _, rfl, ⟨a, rfl, _⟩, ⟨_, _, rfl, ⟨b, rfl, hb⟩, rfl⟩⟩
 exact ⟨(a, b), rfl, ahB hb⟩
section
variable {H : Type} {enc : TypeId × Value → H} {w : World} {base : Nat} {spare : Nat → Bool} {held : Bool}
theorem adk {fuel : Nat} {cs : List Value} {x : DataW H × List MemPlace} (h : DataW.trod enc Tryz.prog w base spare held fuel 118 cs = some x) : ∃ d : Gs.jU, cs = Gs.de d ∧ Rd w d.A (vals .u8 d.b) ∧ Gs.Dw1 d := by
 obtain ⟨hl, n, hf⟩ := fields_of Tryz.underlying118 h
 rw [show Tryz.prog.cellsOf 118 = 3 by kernel_rfl] at hl
 obtain ⟨y0, h0⟩ := hf 0 _ rfl
 obtain ⟨y1, h1⟩ := hf 1 _ rfl
 replace h0 : DataW.trod enc Tryz.prog w base spare held n 24 ((cs.drop 0).take (Tryz.prog.cellsOf 24)) = some y0 := h0
 rw [show Tryz.prog.cellsOf 24 = 1 by kernel_rfl] at h0
 replace h1 : DataW.trod enc Tryz.prog w base spare held n 45 ((cs.drop 1).take (Tryz.prog.cellsOf 45)) = some y1 := h1
 rw [show Tryz.prog.cellsOf 45 = 2 by kernel_rfl] at h1
 match cs, hl with
 | [a, b, c], _ =>
  obtain ⟨A, len, cap, l, ha, rd, hq, hn, hc, _⟩ := YP (encI .u8) Tryz.underlying24 (by kernel_rfl) (Q := fun a : Int => (Lit.int .u8 a).wf = true) (fun fuel cs x hx => afi .u8 _ (CO 3 fuel 5 _ cs x (by kernel_rfl) hx)) h0
  obtain ⟨q, hb, hkw⟩ := VJ _ (CO 3 n 45 _ _ _ (by kernel_rfl) h1)
  simp only [List.drop_zero, List.take_succ_cons, List.take_zero, List.cons.injEq, and_true] at ha
  simp only [List.drop_succ_cons, List.drop_zero, List.take_succ_cons, List.take_zero, Gs.kv, List.cons.injEq, and_true] at hb
  obtain ⟨rfl, rfl⟩ := hb
  subst ha hn
  rw [QK] at rd
  exact ⟨⟨A, cap, l, q.1, q.2⟩, rfl, rd, hc, fun x hx => ahB (hq x hx), hkw⟩
theorem Ii {r : Reach} {b0 : Nat} {v : Value} {d : DataW H} {ps : List MemPlace} (hval : Value.okWide Tryz.prog w r b0 57 v) (h : DataW.Trod enc Tryz.prog w base spare held 57 v d ps) :
  ∃ (A : Option Addr) (c : Nat) (l : List Gs.jU), v = .slice A l.length c ∧ Rd w A (rows Gs.de l) ∧ Gs.pO w l ∧ Gs.Ah l ∧ l.length ≤ maxLen := by
 obtain ⟨A, len, cap, rfl⟩ := okWide_slice Tryz.underlying57 hval
 obtain ⟨fuel, h⟩ := h
 obtain ⟨A2, len2, cap2, l, he, rd, hq, hn, hcp, hmx⟩ := YP Gs.aaM Tryz.underlying57 (by kernel_rfl) (Q := fun d : Gs.jU => Rd w d.A (vals .u8 d.b) ∧ Gs.Dw1 d) (fun fuel cs x hx => adk hx) h
 simp only [Value.cells, List.cons.injEq, Value.slice.injEq, and_true] at he
 obtain ⟨rfl, rfl, rfl⟩ := he
 subst hn
 exact ⟨A, cap, l, rfl, rd, fun x hx => (hq x hx).1, fun x hx => (hq x hx).2, Nat.le_trans hcp hmx⟩
end
end Go.Proofs.YtjdoakbadehicaaGreatDoor
end
