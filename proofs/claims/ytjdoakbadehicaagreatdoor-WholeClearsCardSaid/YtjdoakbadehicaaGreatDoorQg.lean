/- Part of a proof. No condition but those that its theorems state. -/
import Derived.Test.YtjdoakbadehicaaGreatDoorQd
import Derived.Test.YtjdoakbadehicaaGreatDoorQf
import Derived.Test.YtjdoakbadehicaaGreatDoorQc
set_option linter.unusedVariables false
set_option linter.unusedSimpArgs false
section
namespace Go.Proofs.YtjdoakbadehicaaGreatDoor
open Go Go.Sh
set_option maxRecDepth 100000
theorem acs {r c : Int} {A : Option Addr} {n cp bp bb B0 : Nat} {b : Gs.Br} {w : World} (ag : Z.h w bp #[Z.i r, Z.i c, .slice A n cp, Z.i b.cur] 91) (ae : Own B0 w 37 5 (.slice A n cp) (rows Gs.cv b.cs)) (aO : Z.h w bb #[Z.p bp, Z.i b.at', Z.u b.lk.b, .bool b.lk.ge, .bool b.lk.st, Z.u b.lk.l, Z.u b.lk.c, .bool b.ld] 229) (hB : Gs.Bw r c n b)  :
    oX 204 #[Z.p bb] w fun e w' => ∃ v, e = .returned v ∧ Z.h w' bb #[Z.p bp, Z.i (Gs.Ec b).at', Z.u (Gs.Ec b).lk.b, .bool (Gs.Ec b).lk.ge, .bool (Gs.Ec b).lk.st, Z.u (Gs.Ec b).lk.l, Z.u (Gs.Ec b).lk.c, .bool (Gs.Ec b).ld] 229 ∧ aA (· = bb) w w' := by
 refine aaj.calls ?_
 unfold aaj
 obtain ⟨hW, hat, hlw⟩ := id hB
 obtain ⟨hn, hcw, hcu, hp, hN, hb⟩ := id hW
 have hF : aA (· = bb) w w := Fr.refl _ _ _
 refine dK (S := no) (fun w1 U1 => ?_)
 refine eG ?_
 refine Z.g 0 ?_
 replace aO := U1.af aO
 refine Z.m aO ?_
 replace ae := ae.ai U1
 replace ag := U1.af ag
 refine fM (fun w' hw' => by have ag := hw'.af ag; have ae := ae.ai hw'; exact jZ ag ae hn) ?_
 refine eG ?_
 refine Z.g 1 ?_
 refine Z.m aO ?_
 refine fM (fun w' hw' => mW (i := b.at') (j := 1)) ?_
 rw [hN, Gs.sF (by omega), hn]
 refine eG ?_
 refine Z.g 1 ?_
 refine aI (fun w4 U4 => ?_)
 replace aO := U4.af aO
 refine Z.s aO (fun w5 aO _ U5 => ?_)
 replace hF := (hF.go0 U1).go0 U4
 replace hF := hF.go U5 (fun i _ h => h)
 refine aI (fun w6 U6 => ?_)
 replace aO := U6.af aO
 replace hF := hF.go0 U6
 exact ⟨_, rfl, aO, hF⟩
theorem GI {r c : Int} {A : Option Addr} {n cp bp bb B0 : Nat} {b : Gs.Br} {w : World} (ag : Z.h w bp #[Z.i r, Z.i c, .slice A n cp, Z.i b.cur] 91) (ae : Own B0 w 37 5 (.slice A n cp) (rows Gs.cv b.cs)) (aO : Z.h w bb #[Z.p bp, Z.i b.at', Z.u b.lk.b, .bool b.lk.ge, .bool b.lk.st, Z.u b.lk.l, Z.u b.lk.c, .bool b.ld] 229) (hB : Gs.Bw r c n b) {x : Gs.Cell} (hx : Gs.Cw x) :
    oX 198 #[Z.p bb, .agg (Gs.cv x).toArray] w fun e w' => ∃ v, e = .returned v ∧ Z.h w' bb #[Z.p bp, Z.i (Gs.wo b x).at', Z.u (Gs.wo b x).lk.b, .bool (Gs.wo b x).lk.ge, .bool (Gs.wo b x).lk.st, Z.u (Gs.wo b x).lk.l, Z.u (Gs.wo b x).lk.c, .bool (Gs.wo b x).ld] 229 ∧ Own B0 w' 37 5 (.slice A n cp) (rows Gs.cv (Gs.wo b x).cs) ∧ aA (fun k => aH (.slice A n cp) k ∨ k = bb) w w' := by
 refine aaf.calls ?_
 unfold aaf
 obtain ⟨hW, hat, hlw⟩ := id hB
 obtain ⟨hn, hcw, hcu, hp, hN, hb⟩ := id hW
 have hF : aA (fun k => aH (.slice A n cp) k ∨ k = bb) w w := Fr.refl _ _ _
 refine Z.x ((Gs.cv x).toArray) (fun b1 w1 e1 ah _ U1 => ?_)
 refine dK (S := no) (fun w2 U2 => ?_)
 refine eG ?_
 refine Z.g 0 ?_
 replace aO := U2.af (U1.af aO)
 refine Z.m aO ?_
 refine eG ?_
 refine Z.g 1 ?_
 refine Z.m aO ?_
 replace ah := U2.af ah
 refine bI (fun w' hw' => by have ah := hw'.af ah; exact (zg (n := 5) (cs' := (Gs.cv x).toArray) (by kernel_rfl) ah (Nat.le_of_ble_eq_true rfl) (by rfl))) ?_
 refine aI (fun w3 U3 => ?_)
 replace ae := ((ae.ai U1).ai U2).ai U3
 replace ag := U3.af (U2.af (U1.af ag))
 refine aN (jv ag ae hn (i := b.at') (x := x)) (fun v4 w4 D4 => ?_)
 obtain ⟨rfl, N4, U4⟩ := D4
 have aJ := ae
 replace ag := U4.get ag (fun h => Own.aS aJ ag (by decide) _ h rfl)
 replace ae := N4
 replace aO := U3.af aO
 replace aO := U4.get aO (fun h => Own.aS aJ aO (by decide) _ h rfl)
 replace hF := ((hF.go0 U1).go0 U2).go0 U3
 replace hF := hF.go U4 (fun i h hs => .inl hs)
 clear aJ
 refine aI (fun w5 U5 => ?_)
 replace ae := ae.ai U5
 replace ag := U5.af ag
 replace aO := U5.af aO
 refine aN (acs (b := { b with cs := Gs.gV b.cs b.at' x }) ag ae aO ⟨hW.set _ hx, hat, hlw⟩) (fun v6 w6 D6 => ?_)
 obtain ⟨N6, U6⟩ := D6
 replace ae := ae.aG U6 (Own.aS ae (by assumption) (by decide))
 replace aO := N6
 replace hF := hF.go0 U5
 replace hF := hF.go U6 (fun i _ h => .inr h)
 have e : (Gs.Ec { b with cs := Gs.gV b.cs b.at' x }).at' = (Gs.wo b x).at' := by show (b.at' + 1) % ((Gs.gV b.cs b.at' x).length : Int) = _; rw [Gs.lD]; rfl
 rw [e] at aO
 exact ⟨_, rfl, aO, ae, hF⟩
theorem Jm {bp bb : Nat} {b : Gs.Br} {w : World} (aO : Z.h w bb #[Z.p bp, Z.i b.at', Z.u b.lk.b, .bool b.lk.ge, .bool b.lk.st, Z.u b.lk.l, Z.u b.lk.c, .bool b.ld] 229) {x : Int} {g : Bool} :
    oX 199 #[Z.p bb, Z.u x, .bool g] w fun e w' => e = .returned (.agg (Gs.cv (Gs.wL b x g)).toArray) ∧ aA no w w' := by
 refine aag.calls ?_
 unfold aag
 have hF : aA no w w := Fr.refl _ _ _
 refine Z.n ((Gs.cv Gs.zc).toArray) (fun b1 w1 e1 ah _ U1 => ?_)
 have bZ : w.heap.size ≤ b1 := by have := hF.size; omega
 refine dK (S := no) (fun w2 U2 => ?_)
 refine eG ?_
 refine Z.g 2 ?_
 refine Z.g 3 ?_
 replace aO := U2.af (U1.af aO)
 refine Z.m aO ?_
 refine eG ?_
 refine Z.g 2 ?_
 refine Z.g 4 ?_
 refine Z.m aO ?_
 refine bI (fun w' hw' => (bG (l := [(0, 1), (1, 1), (2, 1), (3, 1), (4, 1)]) (z := #[Z.u 0, .bool false, .bool false, Z.u 0, Z.u 0]) (cs := Gs.cv (Gs.wL b x g)) (by kernel_rfl) (by rfl))) ?_
 refine aI (fun w4 U4 => ?_)
 replace ah := U4.af (U2.af ah)
 refine Z.t 5 ((Gs.cv (Gs.wL b x g)).toArray) (by (simp [Value.cells, Value.oneCell', Gs.cv, Gs.fv, Gs.ie, Gs.pe, Gs.oe, Gs.cZ, Gs.fe, Gs.fE, Gs.ce, Gs.dZ]; done)) ah (fun w5 ah _ U5 => ?_)
 refine aI (fun w6 U6 => ?_)
 replace ah := U6.af ah
 refine Z.a 5 ah ?_
 replace hF := ((((hF.go0 U1).go0 U2).go0 U4).go1 U5 bZ).go0 U6
 exact ⟨rfl, hF⟩
theorem CX {c : Gs.Cell} {ps : List Gs.Pr} {A : Option Addr} {n cp : Nat} {w : World} (bH : Rd w A (rows Gs.pe ps)) (hn : n = ps.length) (hb : n ≤ 100000) (hpw : ∀ p ∈ ps, Gs.XK p) :
    oX 200 #[.agg (Gs.cv c).toArray, .slice A n cp] w fun e w' => e = .returned (.agg (Gs.cv (Gs.oZ c ps)).toArray) ∧ aA no w w' := by
 refine aah.calls ?_
 unfold aah
 subst hn
 have hF : aA no w w := Fr.refl _ _ _
 refine Z.x ((Gs.cv c).toArray) (fun b1 w1 e1 ah _ U1 => ?_)
 have rH := bH.apart e1
 have bZ : w.heap.size ≤ b1 := by have := hF.size; omega
 refine Z.n ((Gs.cv Gs.zc).toArray) (fun b2 w2 e2 ax _ U2 => ?_)
 have lS : b1 ≠ b2 := by have := ak ah; omega
 replace hF := hF.go0 U1
 have eU : w.heap.size ≤ b2 := by have := hF.size; omega
 refine bP (fun g w' => (Z.h w' b1 ((Gs.cv (Gs.oZ c ps)).toArray) 37) ∧ (Z.h w' b2 ((Gs.cv Gs.zc).toArray) 37) ∧ (aA no w w')) (fun J1 hJ1 => ?_) (fun gJ1 jK hI => ?_)
 refine au (gK (by kernel_rfl) _ _ _) ?_
 refine eF (fun g w' => ∃ (k : Nat), (g 9 = Z.i (k : Int)) ∧ (k ≤ ps.length) ∧ (Z.h w' b1 ((Gs.cv (Gs.oZ c (ps.take k))).toArray) 37) ∧ (Z.h w' b2 ((Gs.cv Gs.zc).toArray) 37) ∧ (Rd w' A (rows Gs.pe ps)) ∧ (aA no w w')) (fun g w' => ps.length - (RowKit.intOf (g 9)).toNat) ?_ (fun g2 qI hI => ?_)
 replace bH := (bH.ai U1).ai U2
 replace ah := U2.af ah
 replace hF := hF.go0 U2
 exact ⟨0, (by rfl), Nat.zero_le _, ah, ax, bH, hF⟩
 replace bH := (bH.ai U1).ai U2
 replace ah := U2.af ah
 replace hF := hF.go0 U2
 obtain ⟨k, g9, hk, ah, ax, bH, hF⟩ := hI
 rw [g9]
 refine az (lss _ _ _ _) (fun h3 => ?_) (fun h3 => ?_)
 refine aK ?_
 refine bP (fun g w' => (Z.h w' b1 ((Gs.cv (Gs.oZ c (ps.take (k + 1)))).toArray) 37) ∧ (Z.h w' b2 ((Gs.cv Gs.zc).toArray) 37) ∧ (Rd w' A (rows Gs.pe ps)) ∧ (aA no w w')) (fun J3 hJ3 => ?_) (fun gJ3 KN hI => ?_)
 refine uh Gs.BD (by kernel_rfl) (by kernel_rfl) bH (by rfl) (by omega) (by omega) (fun x4 hx4 => ?_)
 simp only [Int.toNat_natCast] at hx4
 have hpx := hpw _ (List.mem_of_getElem? hx4)
 have hpv := hpx.2
 refine Z.n ((Gs.pe Gs.zpr).toArray) (fun b5 w5 e5 cO _ U5 => ?_)
 have gU : b1 ≠ b5 := by have := ak ah; omega
 have nz : b2 ≠ b5 := by have := ak ax; omega
 have Am := bH.apart e5
 have iG : w.heap.size ≤ b5 := by have := hF.size; omega
 refine Z.t 2 ((Gs.pe x4).toArray) (by (simp [Value.cells, Value.oneCell', Gs.cv, Gs.fv, Gs.ie, Gs.pe, Gs.oe, Gs.cZ, Gs.fe, Gs.fE, Gs.ce, Gs.dZ]; done)) cO (fun w6 cO _ U6 => ?_)
 refine Z.f 0 ?_
 refine Z.l cO ?_
 refine az (cu _ _ _ _ _) (fun h7 => ?_) (fun h7 => ?_)
 refine aK ?_
 refine Z.f 1 ?_
 refine Z.l cO ?_
 refine au (EP _ (by omega)) ?_
 refine Z.f 0 ?_
 replace ah := U6.aj (U5.af ah) gU
 refine Z.s ah (fun w8 ah _ U8 => ?_)
 refine hJ3 _ _ ?_
 replace bH := ((bH.ai U5).aG U6 Am).aG U8 rH
 replace ax := U8.aj (U6.aj (U5.af ax) nz) (Ne.symm lS)
 replace hF := ((hF.go0 U5).go1 U6 iG).go1 U8 bZ
 exact ⟨(by rw [Gs.yO hx4]; unfold Gs.xy; (rw [if_pos (by assumption)]; exact ah)), ax, bH, hF⟩
 refine aF ?_
 refine az (cu _ _ _ _ _) (fun h9 => ?_) (fun h9 => ?_)
 refine aK ?_
 refine Z.f 1 ?_
 refine Z.l cO ?_
 refine Z.f 3 ?_
 replace ah := U6.aj (U5.af ah) gU
 refine Z.s ah (fun w10 ah _ aW => ?_)
 refine hJ3 _ _ ?_
 replace bH := ((bH.ai U5).aG U6 Am).aG aW rH
 replace ax := aW.aj (U6.aj (U5.af ax) nz) (Ne.symm lS)
 replace hF := ((hF.go0 U5).go1 U6 iG).go1 aW bZ
 exact ⟨(by rw [Gs.yO hx4]; unfold Gs.xy; (rw [if_neg (by assumption), if_pos (by assumption)]; exact ah)), ax, bH, hF⟩
 refine aF ?_
 refine az (cu _ _ _ _ _) (fun h11 => ?_) (fun h11 => ?_)
 refine aK ?_
 refine Z.f 1 ?_
 refine Z.l cO ?_
 refine Z.f 4 ?_
 replace ah := U6.aj (U5.af ah) gU
 refine Z.s ah (fun w12 ah _ df => ?_)
 refine hJ3 _ _ ?_
 replace bH := ((bH.ai U5).aG U6 Am).aG df rH
 replace ax := df.aj (U6.aj (U5.af ax) nz) (Ne.symm lS)
 replace hF := ((hF.go0 U5).go1 U6 iG).go1 df bZ
 exact ⟨(by rw [Gs.yO hx4]; unfold Gs.xy; (rw [if_neg (by assumption), if_neg (by assumption), if_pos (by assumption)]; exact ah)), ax, bH, hF⟩
 refine aF ?_
 refine az (cu _ _ _ _ _) (fun h13 => ?_) (fun h13 => ?_)
 refine aK ?_
 refine Z.f 3 ?_
 replace ah := U6.aj (U5.af ah) gU
 refine Z.s ah (fun sJ ah _ dm => ?_)
 refine Z.f 4 ?_
 refine Z.s ah (fun tX ah _ bU => ?_)
 refine hJ3 _ _ ?_
 replace bH := (((bH.ai U5).aG U6 Am).aG dm rH).aG bU rH
 replace ax := bU.aj (dm.aj (U6.aj (U5.af ax) nz) (Ne.symm lS)) (Ne.symm lS)
 replace hF := (((hF.go0 U5).go1 U6 iG).go1 dm bZ).go1 bU bZ
 exact ⟨(by rw [Gs.yO hx4]; unfold Gs.xy; (rw [if_neg (by assumption), if_neg (by assumption), if_neg (by assumption), if_pos (by assumption)]; exact ah)), ax, bH, hF⟩
 refine aF ?_
 refine hJ3 _ _ ?_
 replace bH := (bH.ai U5).aG U6 Am
 replace ah := U6.aj (U5.af ah) gU
 replace ax := U6.aj (U5.af ax) nz
 replace hF := (hF.go0 U5).go1 U6 iG
 exact ⟨(by rw [Gs.yO hx4]; unfold Gs.xy; (rw [if_neg (by assumption), if_neg (by assumption), if_neg (by assumption), if_neg (by assumption)]; exact ah)), ax, bH, hF⟩
 obtain ⟨ah, ax, bH, hF⟩ := hI
 refine au (dL _ (by omega)) ?_
 exact ⟨⟨k + 1, (by rfl), by omega, ah, ax, bH, hF⟩, cnt_lt (by rfl) rfl (by omega)⟩
 refine aF ?_
 refine hJ1 _ _ ?_
 exact ⟨(by rw [List.take_of_length_le (by omega)] at ah; exact ah), ax, hF⟩
 replace ah := U2.af ah
 replace hF := hF.go0 U2
 obtain ⟨ah, ax, hF⟩ := hI
 refine Z.b 5 ((Gs.cv (Gs.oZ c ps)).toArray) ah ?_
 refine Z.t 5 ((Gs.cv (Gs.oZ c ps)).toArray) (by (simp [Value.cells, Value.oneCell', Gs.cv, Gs.fv, Gs.ie, Gs.pe, Gs.oe, Gs.cZ, Gs.fe, Gs.fE, Gs.ce, Gs.dZ]; done)) ax (fun w16 ax _ bQ => ?_)
 refine Z.a 5 ax ?_
 replace hF := hF.go1 bQ eU
 exact ⟨rfl, hF⟩
theorem acu {r c : Int} {A : Option Addr} {n cp bp bb B0 : Nat} {b : Gs.Br} {w : World} (ag : Z.h w bp #[Z.i r, Z.i c, .slice A n cp, Z.i b.cur] 91) (ae : Own B0 w 37 5 (.slice A n cp) (rows Gs.cv b.cs)) (aO : Z.h w bb #[Z.p bp, Z.i b.at', Z.u b.lk.b, .bool b.lk.ge, .bool b.lk.st, Z.u b.lk.l, Z.u b.lk.c, .bool b.ld] 229) (hB : Gs.Bw r c n b) {o : Gs.iW} (dG : Gs.ku w [o]) (hwo : Gs.zi o) (hlo : o.ds.length ≤ 100000 ∧ o.ps.length ≤ 100000) (na1 : [o] = [] ∨ ∀ k, Gs.jI [o] k → ¬ aH (.slice A n cp) k) (na2 : [o] = [] ∨ ∀ k, Gs.jI [o] k → k ≠ bp) (na3 : [o] = [] ∨ ∀ k, Gs.jI [o] k → k ≠ bb) :
    oX 182 #[Z.p bb, .agg (Gs.oe o).toArray] w fun e w' => ∃ v, e = .returned v ∧ v = Z.i (Gs.xJ o.m b).2 ∧ Z.h w' bp #[Z.i r, Z.i c, .slice A n cp, Z.i (Gs.xJ o.m b).1.cur] 91 ∧ Own B0 w' 37 5 (.slice A n cp) (rows Gs.cv (Gs.xJ o.m b).1.cs) ∧ Z.h w' bb #[Z.p bp, Z.i (Gs.xJ o.m b).1.at', Z.u (Gs.xJ o.m b).1.lk.b, .bool (Gs.xJ o.m b).1.lk.ge, .bool (Gs.xJ o.m b).1.lk.st, Z.u (Gs.xJ o.m b).1.lk.l, Z.u (Gs.xJ o.m b).1.lk.c, .bool (Gs.xJ o.m b).1.ld] 229 ∧ aA (fun k => (aH (.slice A n cp) k ∨ k = bp) ∨ k = bb) w w' := by
 refine ZY.calls ?_
 unfold ZY
 obtain ⟨hW, hat, hlw⟩ := id hB
 obtain ⟨hn, hcw, hcu, hp, hN, hb⟩ := id hW
 obtain ⟨hok, hob, hod, hop⟩ := id hwo
 have hF : aA (fun k => (aH (.slice A n cp) k ∨ k = bp) ∨ k = bb) w w := Fr.refl _ _ _
 refine Z.x ((Gs.oe o).toArray) (fun b1 w1 e1 ah _ U1 => ?_)
 refine bP (fun g w' => (Z.h w' bp #[Z.i r, Z.i c, .slice A n cp, Z.i (Gs.lY o.ds b).cur] 91) ∧ (Own B0 w' 37 5 (.slice A n cp) (rows Gs.cv (Gs.lY o.ds b).cs)) ∧ (Z.h w' bb #[Z.p bp, Z.i (Gs.lY o.ds b).at', Z.u (Gs.lY o.ds b).lk.b, .bool (Gs.lY o.ds b).lk.ge, .bool (Gs.lY o.ds b).lk.st, Z.u (Gs.lY o.ds b).lk.l, Z.u (Gs.lY o.ds b).lk.c, .bool (Gs.lY o.ds b).ld] 229) ∧ (aA (fun k => (aH (.slice A n cp) k ∨ k = bp) ∨ k = bb) w w')) (fun J1 hJ1 => ?_) (fun gJ1 jK hI => ?_)
 refine Z.f 5 ?_
 refine Z.l ah ?_
 refine au (gK (by kernel_rfl) _ _ _) ?_
 refine eF (fun g w' => ∃ (k : Nat), (g 10 = Z.i (k : Int)) ∧ (k ≤ o.ds.length) ∧ (Z.h w' bp #[Z.i r, Z.i c, .slice A n cp, Z.i (Gs.lY (o.ds.take k) b).cur] 91) ∧ (Own B0 w' 37 5 (.slice A n cp) (rows Gs.cv (Gs.lY (o.ds.take k) b).cs)) ∧ (Z.h w' bb #[Z.p bp, Z.i (Gs.lY (o.ds.take k) b).at', Z.u (Gs.lY (o.ds.take k) b).lk.b, .bool (Gs.lY (o.ds.take k) b).lk.ge, .bool (Gs.lY (o.ds.take k) b).lk.st, Z.u (Gs.lY (o.ds.take k) b).lk.l, Z.u (Gs.lY (o.ds.take k) b).lk.c, .bool (Gs.lY (o.ds.take k) b).ld] 229) ∧ (Gs.ku w' [o]) ∧ (aA (fun k => (aH (.slice A n cp) k ∨ k = bp) ∨ k = bb) w w')) (fun g w' => o.ds.length - (RowKit.intOf (g 10)).toNat) ?_ (fun g2 qI hI => ?_)
 replace ae := ae.ai U1
 replace dG := dG.ai U1
 replace ag := U1.af ag
 replace aO := U1.af aO
 replace hF := hF.go0 U1
 exact ⟨0, (by rfl), Nat.zero_le _, ag, ae, aO, dG, hF⟩
 replace ae := ae.ai U1
 replace dG := dG.ai U1
 replace ag := U1.af ag
 replace aO := U1.af aO
 replace hF := hF.go0 U1
 obtain ⟨k, g10, hk, ag, ae, aO, dG, hF⟩ := hI
 rw [g10]
 have hBk : Gs.Bw r c n (Gs.lY (o.ds.take k) b) := hB.data (fun x hx => hod x (List.mem_of_mem_take hx))
 have hnk := hBk.hn
 refine az (lss _ _ _ _) (fun h2 => ?_) (fun h2 => ?_)
 refine aK ?_
 refine mO (by kernel_rfl) (by kernel_rfl) dG.d (by rfl) (by omega) (by omega) (fun x3 hx3 => ?_)
 simp only [Int.toNat_natCast] at hx3
 refine aB (Jm (b := (Gs.lY (o.ds.take k) b)) aO (x := x3) (g := false)) (fun w4 U4 => ?_)
 replace ae := ae.ai U4
 replace ag := U4.af ag
 replace aO := U4.af aO
 refine aN (GI (b := (Gs.lY (o.ds.take k) b)) ag ae aO hBk (x := Gs.wL (Gs.lY (o.ds.take k) b) x3 false) (Gs.Jn (hod.get hx3) _)) (fun v5 w5 D5 => ?_)
 obtain ⟨M5, N5, U5⟩ := D5
 have aJ := ae
 replace ae := N5
 replace dG := dG.ai U4
 replace dG := dG.dY U5 (na1.elim .inl fun h1 => na3.imp_right fun h2 k hk hs => Or.elim (show aH _ _ ∨ _ = _ from hs) (h1 k hk) (fun hb => h2 k hk hb))
 replace ag := U5.get ag (fun hs => Or.elim (show aH _ _ ∨ _ = _ from hs) (fun h => Own.aS aJ ag (by decide) _ h rfl) (fun hb => absurd hb (by exact dP (by assumption) (by assumption) (by decide))))
 replace aO := M5
 replace hF := hF.go0 U4
 replace hF := hF.go U5 (fun i h hs => Or.elim (show aH _ _ ∨ _ = _ from hs) (fun hs => .inl (.inl hs)) (fun hb => by (subst hb; omega)))
 clear aJ
 refine au (dL _ (by omega)) ?_
 exact ⟨⟨k + 1, (by rfl), by omega, (by rw [Gs.GK hx3]; exact ag), (by rw [Gs.GK hx3]; exact ae), (by rw [Gs.GK hx3]; exact aO), dG, hF⟩, cnt_lt (by rfl) rfl (by omega)⟩
 refine aF ?_
 refine hJ1 _ _ ?_
 exact ⟨(by rw [List.take_of_length_le (by omega)] at ag; exact ag), (by rw [List.take_of_length_le (by omega)] at ae; exact ae), (by rw [List.take_of_length_le (by omega)] at aO; exact aO), hF⟩
 replace ae := ae.ai U1
 replace ag := U1.af ag
 replace aO := U1.af aO
 replace hF := hF.go0 U1
 obtain ⟨ag, ae, aO, hF⟩ := hI
 exact ⟨_, rfl, rfl, ag, ae, aO, hF⟩
theorem UR {r c : Int} {A : Option Addr} {n cp bp bb B0 : Nat} {b : Gs.Br} {w : World} (ag : Z.h w bp #[Z.i r, Z.i c, .slice A n cp, Z.i b.cur] 91) (ae : Own B0 w 37 5 (.slice A n cp) (rows Gs.cv b.cs)) (aO : Z.h w bb #[Z.p bp, Z.i b.at', Z.u b.lk.b, .bool b.lk.ge, .bool b.lk.st, Z.u b.lk.l, Z.u b.lk.c, .bool b.ld] 229) (hB : Gs.Bw r c n b) {o : Gs.iW} (dG : Gs.ku w [o]) (hwo : Gs.zi o) (hlo : o.ds.length ≤ 100000 ∧ o.ps.length ≤ 100000) (na1 : [o] = [] ∨ ∀ k, Gs.jI [o] k → ¬ aH (.slice A n cp) k) (na2 : [o] = [] ∨ ∀ k, Gs.jI [o] k → k ≠ bp) (na3 : [o] = [] ∨ ∀ k, Gs.jI [o] k → k ≠ bb) :
    oX 183 #[Z.p bb, .agg (Gs.oe o).toArray] w fun e w' => ∃ v, e = .returned v ∧ v = Z.i (Gs.xK o.m b).2 ∧ Z.h w' bp #[Z.i r, Z.i c, .slice A n cp, Z.i (Gs.xK o.m b).1.cur] 91 ∧ Own B0 w' 37 5 (.slice A n cp) (rows Gs.cv (Gs.xK o.m b).1.cs) ∧ Z.h w' bb #[Z.p bp, Z.i (Gs.xK o.m b).1.at', Z.u (Gs.xK o.m b).1.lk.b, .bool (Gs.xK o.m b).1.lk.ge, .bool (Gs.xK o.m b).1.lk.st, Z.u (Gs.xK o.m b).1.lk.l, Z.u (Gs.xK o.m b).1.lk.c, .bool (Gs.xK o.m b).1.ld] 229 ∧ aA (fun k => (aH (.slice A n cp) k ∨ k = bp) ∨ k = bb) w w' := by
 refine ZZ.calls ?_
 unfold ZZ
 obtain ⟨hW, hat, hlw⟩ := id hB
 obtain ⟨hn, hcw, hcu, hp, hN, hb⟩ := id hW
 obtain ⟨hok, hob, hod, hop⟩ := id hwo
 have hF : aA (fun k => (aH (.slice A n cp) k ∨ k = bp) ∨ k = bb) w w := Fr.refl _ _ _
 refine Z.x ((Gs.oe o).toArray) (fun b1 w1 e1 ah _ U1 => ?_)
 refine Z.f 2 ?_
 refine Z.l ah ?_
 replace aO := U1.af aO
 refine aB (Jm aO (x := o.b) (g := true)) (fun w2 U2 => ?_)
 replace ae := (ae.ai U1).ai U2
 replace ag := U2.af (U1.af ag)
 replace aO := U2.af aO
 refine aN (GI (b := b) ag ae aO hB (x := Gs.wL b o.b true) (Gs.Jn hob _)) (fun v3 w3 D3 => ?_)
 obtain ⟨M3, N3, U3⟩ := D3
 have aJ := ae
 replace ae := N3
 replace ag := U3.get ag (fun hs => Or.elim (show aH _ _ ∨ _ = _ from hs) (fun h => Own.aS aJ ag (by decide) _ h rfl) (fun hb => absurd hb (by exact dP (by assumption) (by assumption) (by decide))))
 replace aO := M3
 replace hF := (hF.go0 U1).go0 U2
 replace hF := hF.go U3 (fun i h hs => Or.elim (show aH _ _ ∨ _ = _ from hs) (fun hs => .inl (.inl hs)) (fun hb => by (subst hb; omega)))
 clear aJ
 exact ⟨_, rfl, rfl, ag, ae, aO, hF⟩
theorem Jo {r c : Int} {A : Option Addr} {n cp bp bb B0 : Nat} {b : Gs.Br} {w : World} (ag : Z.h w bp #[Z.i r, Z.i c, .slice A n cp, Z.i b.cur] 91) (ae : Own B0 w 37 5 (.slice A n cp) (rows Gs.cv b.cs)) (aO : Z.h w bb #[Z.p bp, Z.i b.at', Z.u b.lk.b, .bool b.lk.ge, .bool b.lk.st, Z.u b.lk.l, Z.u b.lk.c, .bool b.ld] 229) (hB : Gs.Bw r c n b) {o : Gs.iW} (dG : Gs.ku w [o]) (hwo : Gs.zi o) (hlo : o.ds.length ≤ 100000 ∧ o.ps.length ≤ 100000) (na1 : [o] = [] ∨ ∀ k, Gs.jI [o] k → ¬ aH (.slice A n cp) k) (na2 : [o] = [] ∨ ∀ k, Gs.jI [o] k → k ≠ bp) (na3 : [o] = [] ∨ ∀ k, Gs.jI [o] k → k ≠ bb) :
    oX 184 #[Z.p bb, .agg (Gs.oe o).toArray] w fun e w' => ∃ v, e = .returned v ∧ v = Z.i (Gs.pz o.m b).2 ∧ Z.h w' bp #[Z.i r, Z.i c, .slice A n cp, Z.i (Gs.pz o.m b).1.cur] 91 ∧ Own B0 w' 37 5 (.slice A n cp) (rows Gs.cv (Gs.pz o.m b).1.cs) ∧ Z.h w' bb #[Z.p bp, Z.i (Gs.pz o.m b).1.at', Z.u (Gs.pz o.m b).1.lk.b, .bool (Gs.pz o.m b).1.lk.ge, .bool (Gs.pz o.m b).1.lk.st, Z.u (Gs.pz o.m b).1.lk.l, Z.u (Gs.pz o.m b).1.lk.c, .bool (Gs.pz o.m b).1.ld] 229 ∧ aA (fun k => (aH (.slice A n cp) k ∨ k = bp) ∨ k = bb) w w' := by
 refine Z4.calls ?_
 unfold Z4
 obtain ⟨hW, hat, hlw⟩ := id hB
 obtain ⟨hn, hcw, hcu, hp, hN, hb⟩ := id hW
 have hF : aA (fun k => (aH (.slice A n cp) k ∨ k = bp) ∨ k = bb) w w := Fr.refl _ _ _
 refine Z.x ((Gs.oe o).toArray) (fun b1 w1 e1 ah _ U1 => ?_)
 refine dK (S := no) (fun w2 U2 => ?_)
 refine Z.g 1 ?_
 replace ah := U2.af ah
 refine Z.m ah ?_
 refine kF (fun w' hw' => (lss _ _ _ _)) (fun h3 => ?_) (fun h3 => ?_)
 refine jm (jm (jm (jm (jm (jm (jm (jm (kU ?_))))))))
 refine aI (fun w4 U4 => ?_)
 refine aK ?_
 replace ae := ((ae.ai U1).ai U2).ai U4
 replace ag := U4.af (U2.af (U1.af ag))
 replace aO := U4.af (U2.af (U1.af aO))
 replace hF := ((hF.go0 U1).go0 U2).go0 U4
 rw [Gs.J7 (o := o.m) (b := b) (by show o.a < 0 ∨ (b.cs.length : Int) ≤ o.a; omega)]; exact ⟨_, rfl, rfl, ag, ae, aO, hF⟩
 refine eP ?_
 refine Z.g 1 ?_
 refine eP ?_
 refine Z.m ah ?_
 refine eP (kG (eP ?_))
 refine eG ?_
 refine eP ?_
 refine Z.g 0 ?_
 refine eP ?_
 replace aO := U2.af (U1.af aO)
 refine Z.m aO ?_
 refine eP ?_
 replace ae := (ae.ai U1).ai U2
 replace ag := U2.af (U1.af ag)
 refine fM (fun w' hw' => by have ag := hw'.af ag; have ae := ae.ai hw'; exact fK ag ae hn) ?_
 refine eP ?_
 refine kF (fun w' hw' => (geq _ _ _ _)) (fun h7 => ?_) (fun h7 => ?_)
 refine jl ?_
 refine aI (fun w8 U8 => ?_)
 refine aK ?_
 replace hF := ((hF.go0 U1).go0 U2).go0 U8
 replace ae := ae.ai U8
 replace ag := U8.af ag
 replace aO := U8.af aO
 rw [Gs.J7 (o := o.m) (b := b) (by show o.a < 0 ∨ (b.cs.length : Int) ≤ o.a; omega)]; exact ⟨_, rfl, rfl, ag, ae, aO, hF⟩
 refine jl ?_
 refine aI (fun w10 aW => ?_)
 refine aF ?_
 refine Z.f 1 ?_
 replace ah := aW.af ah
 refine Z.l ah ?_
 refine dw ?_
 refine Z.f 1 ?_
 replace aO := aW.af aO
 refine Z.s aO (fun nT aO _ bJ => ?_)
 replace ae := ae.ai aW
 replace ae := ae.aG bJ (Own.aS ae (by assumption) (by decide))
 replace ag := aW.af ag
 replace ag := bJ.aj ag (by exact dP (by assumption) (by assumption) (by decide))
 replace hF := ((hF.go0 U1).go0 U2).go0 aW
 replace hF := hF.go bJ (fun i _ h => .inr h)
 rw [Gs.J8 (o := o.m) (b := b) (by show ¬ (o.a < 0 ∨ (b.cs.length : Int) ≤ o.a); omega)]; exact ⟨_, rfl, rfl, ag, ae, aO, hF⟩
theorem aaF {r c : Int} {A : Option Addr} {n cp bp bb B0 : Nat} {b : Gs.Br} {w : World} (ag : Z.h w bp #[Z.i r, Z.i c, .slice A n cp, Z.i b.cur] 91) (ae : Own B0 w 37 5 (.slice A n cp) (rows Gs.cv b.cs)) (aO : Z.h w bb #[Z.p bp, Z.i b.at', Z.u b.lk.b, .bool b.lk.ge, .bool b.lk.st, Z.u b.lk.l, Z.u b.lk.c, .bool b.ld] 229) (hB : Gs.Bw r c n b) {o : Gs.iW} (dG : Gs.ku w [o]) (hwo : Gs.zi o) (hlo : o.ds.length ≤ 100000 ∧ o.ps.length ≤ 100000) (na1 : [o] = [] ∨ ∀ k, Gs.jI [o] k → ¬ aH (.slice A n cp) k) (na2 : [o] = [] ∨ ∀ k, Gs.jI [o] k → k ≠ bp) (na3 : [o] = [] ∨ ∀ k, Gs.jI [o] k → k ≠ bb) :
    oX 185 #[Z.p bb, .agg (Gs.oe o).toArray] w fun e w' => ∃ v, e = .returned v ∧ v = Z.i (Gs.uH o.m b).2 ∧ Z.h w' bp #[Z.i r, Z.i c, .slice A n cp, Z.i (Gs.uH o.m b).1.cur] 91 ∧ Own B0 w' 37 5 (.slice A n cp) (rows Gs.cv (Gs.uH o.m b).1.cs) ∧ Z.h w' bb #[Z.p bp, Z.i (Gs.uH o.m b).1.at', Z.u (Gs.uH o.m b).1.lk.b, .bool (Gs.uH o.m b).1.lk.ge, .bool (Gs.uH o.m b).1.lk.st, Z.u (Gs.uH o.m b).1.lk.l, Z.u (Gs.uH o.m b).1.lk.c, .bool (Gs.uH o.m b).1.ld] 229 ∧ aA (fun k => (aH (.slice A n cp) k ∨ k = bp) ∨ k = bb) w w' := by
 refine Z5.calls ?_
 unfold Z5
 obtain ⟨hW, hat, hlw⟩ := id hB
 obtain ⟨hn, hcw, hcu, hp, hN, hb⟩ := id hW
 obtain ⟨hok, hob, hod, hop⟩ := id hwo
 have hF : aA (fun k => (aH (.slice A n cp) k ∨ k = bp) ∨ k = bb) w w := Fr.refl _ _ _
 refine Z.x ((Gs.oe o).toArray) (fun b1 w1 e1 ah _ U1 => ?_)
 refine au (bG (l := [(0, 1), (1, 1), (2, 1), (3, 1), (4, 1)]) (z := #[Z.u 0, .bool false, .bool false, Z.u 0, Z.u 0]) (cs := Gs.cv ⟨0, false, true, 0, 0⟩) (by kernel_rfl) (by rfl)) ?_
 refine Z.n ((Gs.cv Gs.zc).toArray) (fun b3 w3 e3 bF _ U3 => ?_)
 replace ag := U1.af ag
 have kV : bp ≠ b3 := by have := ak ag; omega
 replace ae := ae.ai U1
 have iH := ae.apart e3
 replace aO := U1.af aO
 have CY : bb ≠ b3 := by have := ak aO; omega
 replace dG := dG.ai U1
 have yt := dG.apart e3
 have lU : b1 ≠ b3 := by have := ak ah; omega
 replace hF := hF.go0 U1
 have jD : w.heap.size ≤ b3 := by have := hF.size; omega
 refine Z.t 5 ((Gs.cv ⟨0, false, true, 0, 0⟩).toArray) (by (simp [Value.cells, Value.oneCell', Gs.cv, Gs.fv, Gs.ie, Gs.pe, Gs.oe, Gs.cZ, Gs.fe, Gs.fE, Gs.ce, Gs.dZ]; done)) bF (fun w4 bF _ U4 => ?_)
 refine bP (fun g w' => ∃ (x : Gs.Cell), (Z.h w' b3 ((Gs.cv x).toArray) 37) ∧ (x = ((if o.k = 29 then ⟨o.b % 64, false, true, 0, 0⟩ else Gs.oZ ⟨0, false, true, 0, 0⟩ o.ps) : Gs.Cell)) ∧ (Gs.Cw x) ∧ (Z.h w' bp #[Z.i r, Z.i c, .slice A n cp, Z.i b.cur] 91) ∧ (Own B0 w' 37 5 (.slice A n cp) (rows Gs.cv b.cs)) ∧ (Z.h w' bb #[Z.p bp, Z.i b.at', Z.u b.lk.b, .bool b.lk.ge, .bool b.lk.st, Z.u b.lk.l, Z.u b.lk.c, .bool b.ld] 229) ∧ (aA (fun k => (aH (.slice A n cp) k ∨ k = bp) ∨ k = bb) w w')) (fun J1 hJ1 => ?_) (fun gJ1 jK hI => ?_)
 refine Z.f 0 ?_
 replace ah := U4.aj (U3.af ah) lU
 refine Z.l ah ?_
 refine az (cu _ _ _ _ _) (fun h5 => ?_) (fun h5 => ?_)
 refine aK ?_
 refine Z.f 2 ?_
 refine Z.l ah ?_
 refine au (EP _ (by omega)) ?_
 refine Z.f 0 ?_
 refine Z.s bF (fun w6 bF _ U6 => ?_)
 refine hJ1 _ _ ?_
 replace ae := ((ae.ai U3).aG U4 iH).aG U6 iH
 replace ag := U6.aj (U4.aj (U3.af ag) kV) kV
 replace aO := U6.aj (U4.aj (U3.af aO) CY) CY
 replace hF := ((hF.go0 U3).go1 U4 jD).go1 U6 jD
 exact ⟨⟨o.b % 64, false, true, 0, 0⟩, bF, (by rw [if_pos (by assumption)]), (show 0 ≤ o.b % 64 ∧ o.b % 64 ≤ 255 by omega), ag, ae, aO, hF⟩
 refine aF ?_
 refine Z.b 5 ((Gs.cv ⟨0, false, true, 0, 0⟩).toArray) bF ?_
 refine Z.f 4 ?_
 refine Z.l ah ?_
 replace dG := (dG.ai U3).aG U4 yt
 refine aB (CX (c := ⟨0, false, true, 0, 0⟩) dG.p rfl hlo.2 hop) (fun w7 U7 => ?_)
 replace bF := U7.af bF
 refine Z.t 5 ((Gs.cv (Gs.oZ ⟨0, false, true, 0, 0⟩ o.ps)).toArray) (by (simp [Value.cells, Value.oneCell', Gs.cv, Gs.fv, Gs.ie, Gs.pe, Gs.oe, Gs.cZ, Gs.fe, Gs.fE, Gs.ce, Gs.dZ]; done)) bF (fun w8 bF _ U8 => ?_)
 refine hJ1 _ _ ?_
 replace ae := (((ae.ai U3).aG U4 iH).ai U7).aG U8 iH
 replace ag := U8.aj (U7.af (U4.aj (U3.af ag) kV)) kV
 replace aO := U8.aj (U7.af (U4.aj (U3.af aO) CY)) CY
 replace hF := (((hF.go0 U3).go1 U4 jD).go0 U7).go1 U8 jD
 exact ⟨(Gs.oZ ⟨0, false, true, 0, 0⟩ o.ps), bF, (by rw [if_neg (by assumption)]), Gs.CZ (show (0 : Int) ≤ 0 ∧ (0 : Int) ≤ 255 by decide), ag, ae, aO, hF⟩
 replace ae := (ae.ai U3).aG U4 iH
 replace ag := U4.aj (U3.af ag) kV
 replace aO := U4.aj (U3.af aO) CY
 replace hF := (hF.go0 U3).go1 U4 jD
 obtain ⟨x, bF, hx, hxw, ag, ae, aO, hF⟩ := hI
 refine Z.b 5 ((Gs.cv x).toArray) bF ?_
 refine aN (GI (b := b) ag ae aO hB (x := x) hxw) (fun v9 w9 D9 => ?_)
 obtain ⟨M9, N9, U9⟩ := D9
 have aJ := ae
 replace ae := N9
 replace ag := U9.get ag (fun hs => Or.elim (show aH _ _ ∨ _ = _ from hs) (fun h => Own.aS aJ ag (by decide) _ h rfl) (fun hb => absurd hb (by exact dP (by assumption) (by assumption) (by decide))))
 replace aO := M9
 replace hF := hF.go U9 (fun i h hs => Or.elim (show aH _ _ ∨ _ = _ from hs) (fun hs => .inl (.inl hs)) (fun hb => by (subst hb; omega)))
 clear aJ
 subst hx
 exact ⟨_, rfl, rfl, ag, ae, aO, hF⟩
theorem aaG {r c : Int} {A : Option Addr} {n cp bp bb B0 : Nat} {b : Gs.Br} {w : World} (ag : Z.h w bp #[Z.i r, Z.i c, .slice A n cp, Z.i b.cur] 91) (ae : Own B0 w 37 5 (.slice A n cp) (rows Gs.cv b.cs)) (aO : Z.h w bb #[Z.p bp, Z.i b.at', Z.u b.lk.b, .bool b.lk.ge, .bool b.lk.st, Z.u b.lk.l, Z.u b.lk.c, .bool b.ld] 229) (hB : Gs.Bw r c n b) {o : Gs.iW} (dG : Gs.ku w [o]) (hwo : Gs.zi o) (hlo : o.ds.length ≤ 100000 ∧ o.ps.length ≤ 100000) (na1 : [o] = [] ∨ ∀ k, Gs.jI [o] k → ¬ aH (.slice A n cp) k) (na2 : [o] = [] ∨ ∀ k, Gs.jI [o] k → k ≠ bp) (na3 : [o] = [] ∨ ∀ k, Gs.jI [o] k → k ≠ bb) :
    oX 186 #[Z.p bb, .agg (Gs.oe o).toArray] w fun e w' => ∃ v, e = .returned v ∧ v = Z.i (Gs.uI o.m b).2 ∧ Z.h w' bp #[Z.i r, Z.i c, .slice A n cp, Z.i (Gs.uI o.m b).1.cur] 91 ∧ Own B0 w' 37 5 (.slice A n cp) (rows Gs.cv (Gs.uI o.m b).1.cs) ∧ Z.h w' bb #[Z.p bp, Z.i (Gs.uI o.m b).1.at', Z.u (Gs.uI o.m b).1.lk.b, .bool (Gs.uI o.m b).1.lk.ge, .bool (Gs.uI o.m b).1.lk.st, Z.u (Gs.uI o.m b).1.lk.l, Z.u (Gs.uI o.m b).1.lk.c, .bool (Gs.uI o.m b).1.ld] 229 ∧ aA (fun k => (aH (.slice A n cp) k ∨ k = bp) ∨ k = bb) w w' := by
 refine Z7.calls ?_
 unfold Z7
 obtain ⟨hW, hat, hlw⟩ := id hB
 obtain ⟨hn, hcw, hcu, hp, hN, hb⟩ := id hW
 obtain ⟨hok, hob, hod, hop⟩ := id hwo
 have hF : aA (fun k => (aH (.slice A n cp) k ∨ k = bp) ∨ k = bb) w w := Fr.refl _ _ _
 refine Z.x ((Gs.oe o).toArray) (fun b1 w1 e1 ah _ U1 => ?_)
 refine dK (S := no) (fun w2 U2 => ?_)
 refine eG ?_
 refine Z.g 2 ?_
 replace aO := U2.af (U1.af aO)
 refine bI (fun w' hw' => by have aO := hw'.af aO; exact (zg (n := 5) (cs' := (Gs.cv b.lk).toArray) (by kernel_rfl) aO (Nat.le_of_ble_eq_true rfl) (by rfl))) ?_
 refine Z.g 4 ?_
 replace ah := U2.af ah
 refine Z.m ah ?_
 replace dG := (dG.ai U1).ai U2
 refine fM (fun w' hw' => by have dG := dG.ai hw'; exact CX (c := b.lk) dG.p rfl hlo.2 hop) ?_
 refine eG ?_
 refine Z.g 2 ?_
 refine aI (fun w4 U4 => ?_)
 replace aO := U4.af aO
 refine ig (n := 5) (by kernel_rfl) (by rfl) (by (simp [Value.cells, Value.oneCell', Gs.cv, Gs.fv, Gs.ie, Gs.pe, Gs.oe, Gs.cZ, Gs.fe, Gs.fE, Gs.ce, Gs.dZ]; done)) aO (Nat.le_of_ble_eq_true rfl) (by (simp; rfl)) (fun w5 aO _ U5 => ?_)
 replace ae := ((ae.ai U1).ai U2).ai U4
 replace ae := ae.aG U5 (Own.aS ae (by assumption) (by decide))
 replace ag := U4.af (U2.af (U1.af ag))
 replace ag := U5.aj ag (by exact dP (by assumption) (by assumption) (by decide))
 replace hF := ((hF.go0 U1).go0 U2).go0 U4
 replace hF := hF.go U5 (fun i _ h => .inr h)
 refine aI (fun w6 U6 => ?_)
 replace ae := ae.ai U6
 replace ag := U6.af ag
 replace aO := U6.af aO
 replace hF := hF.go0 U6
 exact ⟨_, rfl, rfl, ag, ae, aO, hF⟩
theorem Wy {r c : Int} {A : Option Addr} {n cp bp bb B0 : Nat} {b : Gs.Br} {w : World} (ag : Z.h w bp #[Z.i r, Z.i c, .slice A n cp, Z.i b.cur] 91) (ae : Own B0 w 37 5 (.slice A n cp) (rows Gs.cv b.cs)) (aO : Z.h w bb #[Z.p bp, Z.i b.at', Z.u b.lk.b, .bool b.lk.ge, .bool b.lk.st, Z.u b.lk.l, Z.u b.lk.c, .bool b.ld] 229) (hB : Gs.Bw r c n b) {o : Gs.iW} (dG : Gs.ku w [o]) (hwo : Gs.zi o) (hlo : o.ds.length ≤ 100000 ∧ o.ps.length ≤ 100000) (na1 : [o] = [] ∨ ∀ k, Gs.jI [o] k → ¬ aH (.slice A n cp) k) (na2 : [o] = [] ∨ ∀ k, Gs.jI [o] k → k ≠ bp) (na3 : [o] = [] ∨ ∀ k, Gs.jI [o] k → k ≠ bb) :
    oX 187 #[Z.p bb, .agg (Gs.oe o).toArray] w fun e w' => ∃ v, e = .returned v ∧ v = Z.i (Gs.nH o.m b).2 ∧ Z.h w' bp #[Z.i r, Z.i c, .slice A n cp, Z.i (Gs.nH o.m b).1.cur] 91 ∧ Own B0 w' 37 5 (.slice A n cp) (rows Gs.cv (Gs.nH o.m b).1.cs) ∧ Z.h w' bb #[Z.p bp, Z.i (Gs.nH o.m b).1.at', Z.u (Gs.nH o.m b).1.lk.b, .bool (Gs.nH o.m b).1.lk.ge, .bool (Gs.nH o.m b).1.lk.st, Z.u (Gs.nH o.m b).1.lk.l, Z.u (Gs.nH o.m b).1.lk.c, .bool (Gs.nH o.m b).1.ld] 229 ∧ aA (fun k => (aH (.slice A n cp) k ∨ k = bp) ∨ k = bb) w w' := by
 refine Z8.calls ?_
 unfold Z8
 obtain ⟨hW, hat, hlw⟩ := id hB
 obtain ⟨hn, hcw, hcu, hp, hN, hb⟩ := id hW
 obtain ⟨hok, hob, hod, hop⟩ := id hwo
 have hF : aA (fun k => (aH (.slice A n cp) k ∨ k = bp) ∨ k = bb) w w := Fr.refl _ _ _
 refine Z.x ((Gs.oe o).toArray) (fun b1 w1 e1 ah _ U1 => ?_)
 refine dK (S := no) (fun w2 U2 => ?_)
 refine eG ?_
 refine Z.g 0 ?_
 replace aO := U2.af (U1.af aO)
 refine Z.m aO ?_
 refine eG ?_
 refine Z.g 1 ?_
 refine Z.m aO ?_
 replace ae := (ae.ai U1).ai U2
 replace ag := U2.af (U1.af ag)
 refine fM (fun w' hw' => by have ag := hw'.af ag; have ae := ae.ai hw'; exact iw ag ae hn (i := b.at')) ?_
 refine aI (fun w4 U4 => ?_)
 refine jo ?_
 refine Z.n ((Gs.cv Gs.zc).toArray) (fun b5 w5 e5 cO _ U5 => ?_)
 replace ag := U4.af ag
 have kC : bp ≠ b5 := by have := ak ag; omega
 replace ae := ae.ai U4
 have jF := ae.apart e5
 replace aO := U4.af aO
 have UT : bb ≠ b5 := by have := ak aO; omega
 replace dG := ((dG.ai U1).ai U2).ai U4
 have acv := dG.apart e5
 replace ah := U4.af (U2.af ah)
 have gU : b1 ≠ b5 := by have := ak ah; omega
 replace hF := ((hF.go0 U1).go0 U2).go0 U4
 have iG : w.heap.size ≤ b5 := by have := hF.size; omega
 refine ⟨U5, ?_⟩
 refine aI (fun w6 U6 => ?_)
 replace cO := U6.af cO
 refine Z.t 5 ((Gs.cv (Gs.bK b.cs b.at')).toArray) (by (simp [Value.cells, Value.oneCell', Gs.cv, Gs.fv, Gs.ie, Gs.pe, Gs.oe, Gs.cZ, Gs.fe, Gs.fE, Gs.ce, Gs.dZ]; done)) cO (fun w7 cO _ U7 => ?_)
 refine aI (fun w8 U8 => ?_)
 refine Z.f 2 ?_
 replace cO := U8.af cO
 refine pW (kT (by kernel_rfl) cO (by rfl)) (fun h9 => ?_) (fun h9 => ?_)
 refine au (kz) ?_
 refine aF ?_
 refine Z.b 5 ((Gs.cv (Gs.bK b.cs b.at')).toArray) cO ?_
 refine Z.f 4 ?_
 replace ah := U8.af (U7.aj (U6.af (U5.af ah)) gU)
 refine Z.l ah ?_
 replace dG := (((dG.ai U5).ai U6).aG U7 acv).ai U8
 refine aB (CX (c := Gs.bK b.cs b.at') dG.p rfl hlo.2 hop) (fun w10 aW => ?_)
 replace ae := ((((ae.ai U5).ai U6).aG U7 jF).ai U8).ai aW
 replace ag := aW.af (U8.af (U7.aj (U6.af (U5.af ag)) kC))
 replace aO := aW.af (U8.af (U7.aj (U6.af (U5.af aO)) UT))
 refine aN (GI (b := b) ag ae aO hB (x := Gs.oZ (Gs.bK b.cs b.at') o.ps) (Gs.CZ (Gs.tu hcw _))) (fun v11 nT D11 => ?_)
 obtain ⟨M11, N11, bJ⟩ := D11
 have aJ := ae
 replace ae := N11
 replace ag := bJ.get ag (fun hs => Or.elim (show aH _ _ ∨ _ = _ from hs) (fun h => Own.aS aJ ag (by decide) _ h rfl) (fun hb => absurd hb (by exact dP (by assumption) (by assumption) (by decide))))
 replace aO := M11
 replace hF := ((((hF.go0 U5).go0 U6).go1 U7 iG).go0 U8).go0 aW
 replace hF := hF.go bJ (fun i h hs => Or.elim (show aH _ _ ∨ _ = _ from hs) (fun hs => .inl (.inl hs)) (fun hb => by (subst hb; omega)))
 clear aJ
 rw [Gs.acw (o := o.m) (b := b) (by assumption)]; exact ⟨_, rfl, rfl, ag, ae, aO, hF⟩
 refine au (nP) ?_
 refine aK ?_
 replace ae := (((ae.ai U5).ai U6).aG U7 jF).ai U8
 replace ag := U8.af (U7.aj (U6.af (U5.af ag)) kC)
 replace aO := U8.af (U7.aj (U6.af (U5.af aO)) UT)
 replace hF := (((hF.go0 U5).go0 U6).go1 U7 iG).go0 U8
 rw [Gs.acx (o := o.m) (b := b) (by assumption)]; exact ⟨_, rfl, rfl, ag, ae, aO, hF⟩
theorem WA {r c : Int} {A : Option Addr} {n cp bp bb B0 : Nat} {b : Gs.Br} {w : World} (ag : Z.h w bp #[Z.i r, Z.i c, .slice A n cp, Z.i b.cur] 91) (ae : Own B0 w 37 5 (.slice A n cp) (rows Gs.cv b.cs)) (aO : Z.h w bb #[Z.p bp, Z.i b.at', Z.u b.lk.b, .bool b.lk.ge, .bool b.lk.st, Z.u b.lk.l, Z.u b.lk.c, .bool b.ld] 229) (hB : Gs.Bw r c n b) {o : Gs.iW} (dG : Gs.ku w [o]) (hwo : Gs.zi o) (hlo : o.ds.length ≤ 100000 ∧ o.ps.length ≤ 100000) (na1 : [o] = [] ∨ ∀ k, Gs.jI [o] k → ¬ aH (.slice A n cp) k) (na2 : [o] = [] ∨ ∀ k, Gs.jI [o] k → k ≠ bp) (na3 : [o] = [] ∨ ∀ k, Gs.jI [o] k → k ≠ bb) :
    oX 188 #[Z.p bb, .agg (Gs.oe o).toArray] w fun e w' => ∃ v, e = .returned v ∧ v = Z.i (Gs.rq o.m b).2 ∧ Z.h w' bp #[Z.i r, Z.i c, .slice A n cp, Z.i (Gs.rq o.m b).1.cur] 91 ∧ Own B0 w' 37 5 (.slice A n cp) (rows Gs.cv (Gs.rq o.m b).1.cs) ∧ Z.h w' bb #[Z.p bp, Z.i (Gs.rq o.m b).1.at', Z.u (Gs.rq o.m b).1.lk.b, .bool (Gs.rq o.m b).1.lk.ge, .bool (Gs.rq o.m b).1.lk.st, Z.u (Gs.rq o.m b).1.lk.l, Z.u (Gs.rq o.m b).1.lk.c, .bool (Gs.rq o.m b).1.ld] 229 ∧ aA (fun k => (aH (.slice A n cp) k ∨ k = bp) ∨ k = bb) w w' := by
 refine Z9.calls ?_
 unfold Z9
 obtain ⟨hW, hat, hlw⟩ := id hB
 obtain ⟨hn, hcw, hcu, hp, hN, hb⟩ := id hW
 have hF : aA (fun k => (aH (.slice A n cp) k ∨ k = bp) ∨ k = bb) w w := Fr.refl _ _ _
 refine Z.x ((Gs.oe o).toArray) (fun b1 w1 e1 ah _ U1 => ?_)
 refine dK (S := no) (fun w2 U2 => ?_)
 refine eG ?_
 refine Z.g 0 ?_
 replace aO := U2.af (U1.af aO)
 refine Z.m aO ?_
 refine eG ?_
 refine Z.g 1 ?_
 refine Z.m aO ?_
 refine aI (fun w3 U3 => ?_)
 replace ae := ((ae.ai U1).ai U2).ai U3
 replace ag := U3.af (U2.af (U1.af ag))
 refine aN (qZ ag ae hn (i := b.at')) (fun v4 w4 D4 => ?_)
 obtain ⟨rfl, N4, U4⟩ := D4
 replace ae := ae.aG U4 (Own.aS ae (by assumption) (by decide))
 replace aO := U3.af aO
 replace aO := U4.aj aO (by exact dP (by assumption) (by assumption) (by decide))
 replace ag := N4
 replace hF := ((hF.go0 U1).go0 U2).go0 U3
 replace hF := hF.go U4 (fun i _ h => .inl (.inr h))
 rw [if_pos (by omega)] at ag
 refine aI (fun w5 U5 => ?_)
 replace ae := ae.ai U5
 replace ag := U5.af ag
 replace aO := U5.af aO
 replace hF := hF.go0 U5
 exact ⟨_, rfl, rfl, ag, ae, aO, hF⟩
theorem acy {r c : Int} {A : Option Addr} {n cp bp bb B0 : Nat} {b : Gs.Br} {w : World} (ag : Z.h w bp #[Z.i r, Z.i c, .slice A n cp, Z.i b.cur] 91) (ae : Own B0 w 37 5 (.slice A n cp) (rows Gs.cv b.cs)) (aO : Z.h w bb #[Z.p bp, Z.i b.at', Z.u b.lk.b, .bool b.lk.ge, .bool b.lk.st, Z.u b.lk.l, Z.u b.lk.c, .bool b.ld] 229) (hB : Gs.Bw r c n b)  :
    oX 201 #[Z.p bb] w fun e w' => ∃ v, e = .returned v ∧ Own B0 w' 37 5 (.slice A n cp) (rows Gs.cv (Gs.mM (b.cs.length - b.at'.toNat) b.cs b.at')) ∧ aA (aH (.slice A n cp)) w w' := by
 refine aai.calls ?_
 unfold aai
 obtain ⟨hW, hat, hlw⟩ := id hB
 obtain ⟨hn, hcw, hcu, hp, hN, hb⟩ := id hW
 obtain ⟨a0, ha0⟩ := Int.eq_ofNat_of_zero_le hat.1
 have ha1 : a0 < n := by omega
 have hF : aA (aH (.slice A n cp)) w w := Fr.refl _ _ _
 refine dw ?_
 refine Z.f 1 ?_
 refine Z.l aO ?_
 refine eF (fun g w' => ∃ (k : Nat) (cs1 : List Gs.Cell), (g 2 = Z.i (k : Int)) ∧ (k ≤ n) ∧ ((Gs.mM (b.cs.length - b.at'.toNat) b.cs b.at') = Gs.mM (n - k) cs1 k) ∧ (n = cs1.length) ∧ (Own B0 w' 37 5 (.slice A n cp) (rows Gs.cv cs1)) ∧ (Z.h w' bp #[Z.i r, Z.i c, .slice A n cp, Z.i b.cur] 91) ∧ (Z.h w' bb #[Z.p bp, Z.i b.at', Z.u b.lk.b, .bool b.lk.ge, .bool b.lk.st, Z.u b.lk.l, Z.u b.lk.c, .bool b.ld] 229) ∧ (aA (aH (.slice A n cp)) w w')) (fun g w' => n - (RowKit.intOf (g 2)).toNat) ?_ (fun g1 wl1 hI => ?_)
 exact ⟨a0, _, (by rw [← ha0]; rfl), (by omega), (by rw [ha0, ← hn]; rfl), hn, ae, ag, aO, hF⟩
 obtain ⟨k, cs1, g2, hk, hrs, hl1, ae, ag, aO, hF⟩ := hI
 rw [g2]
 refine dw ?_
 refine Z.f 0 ?_
 refine Z.l aO ?_
 refine aB (fK ag ae hl1) (fun w1 U1 => ?_)
 refine az (lss _ _ _ _) (fun h2 => ?_) (fun h2 => ?_)
 refine aX (aX ?_)
 refine dw ?_
 refine aX ?_
 refine Z.f 0 ?_
 refine aX ?_
 replace aO := U1.af aO
 refine Z.l aO ?_
 refine aX (aX ?_)
 replace ae := ae.ai U1
 replace ag := U1.af ag
 refine aB (iw ag ae hl1 (i := (k : Int))) (fun w3 U3 => ?_)
 refine aX ?_
 refine pW (qA (off := 2) (by kernel_rfl) (by rfl)) (fun h4 => ?_) (fun h4 => ?_)
 refine aX ?_
 refine au (kz) ?_
 refine aU (aF ?_)
 replace hF := (hF.go0 U1).go0 U3
 replace ae := ae.ai U3
 exact ⟨_, rfl, (by rw [Gs.ahY hrs (by assumption)]; exact ae), hF⟩
 refine aX ?_
 refine au (nP) ?_
 refine aU (aK ?_)
 refine dw ?_
 refine Z.f 0 ?_
 replace aO := U3.af aO
 refine Z.l aO ?_
 refine au (bG (l := [(0, 1), (1, 1), (2, 1), (3, 1), (4, 1)]) (z := #[Z.u 0, .bool false, .bool false, Z.u 0, Z.u 0]) (cs := (Gs.cv Gs.zc)) (by kernel_rfl) (by rfl)) ?_
 replace ae := ae.ai U3
 replace ag := U3.af ag
 refine aN (jv ag ae hl1 (i := (k : Int)) (x := Gs.zc)) (fun v6 w6 D6 => ?_)
 obtain ⟨rfl, N6, U6⟩ := D6
 have aJ := ae
 replace ae := N6
 replace ag := U6.get ag (fun h => Own.aS aJ ag (by decide) _ h rfl)
 replace aO := U6.get aO (fun h => Own.aS aJ aO (by decide) _ h rfl)
 replace hF := (hF.go0 U1).go0 U3
 replace hF := hF.go U6 (fun i h hs => by exact hs)
 clear aJ
 refine au (dL _ (by omega)) ?_
 exact ⟨⟨k + 1, _, rfl, (by omega), (Gs.ahZ hrs (by omega) (by assumption)), (by rw [Gs.lD]; exact hl1), ae, ag, aO, hF⟩, cnt_lt (by rfl) rfl (by omega)⟩
 refine aQ (aQ (aQ (aQ (aQ (aQ (aQ (aQ (aT (aF ?_)))))))))
 replace ae := ae.ai U1
 replace hF := hF.go0 U1
 exact ⟨_, rfl, (by rw [Gs.ah0 hrs (by omega)]; exact ae), hF⟩
def BrC (m : Nat) (f : Gs.iT → Gs.Br → Gs.Br × Int) (o : Gs.iW) (r c : Int) (A : Option Addr) (n cp bp bb B0 : Nat) (b : Gs.Br) : Prop := ∀ {w : World}, Z.h w bp #[Z.i r, Z.i c, .slice A n cp, Z.i b.cur] 91 → Own B0 w 37 5 (.slice A n cp) (rows Gs.cv b.cs) → Z.h w bb #[Z.p bp, Z.i b.at', Z.u b.lk.b, .bool b.lk.ge, .bool b.lk.st, Z.u b.lk.l, Z.u b.lk.c, .bool b.ld] 229 → Gs.ku w [o] → oX m #[Z.p bb, .agg (Gs.oe o).toArray] w (fun e w' => ∃ v, e = .returned v ∧ v = Z.i (f o.m b).2 ∧ Z.h w' bp #[Z.i r, Z.i c, .slice A n cp, Z.i (f o.m b).1.cur] 91 ∧ Own B0 w' 37 5 (.slice A n cp) (rows Gs.cv (f o.m b).1.cs) ∧ Z.h w' bb #[Z.p bp, Z.i (f o.m b).1.at', Z.u (f o.m b).1.lk.b, .bool (f o.m b).1.lk.ge, .bool (f o.m b).1.lk.st, Z.u (f o.m b).1.lk.l, Z.u (f o.m b).1.lk.c, .bool (f o.m b).1.ld] 229 ∧ aA (fun k => (aH (.slice A n cp) k ∨ k = bp) ∨ k = bb) w w')
theorem aew {r c : Int} {A : Option Addr} {n cp bp bb B0 : Nat} {b : Gs.Br} {w : World} (ag : Z.h w bp #[Z.i r, Z.i c, .slice A n cp, Z.i b.cur] 91) (ae : Own B0 w 37 5 (.slice A n cp) (rows Gs.cv b.cs)) (aO : Z.h w bb #[Z.p bp, Z.i b.at', Z.u b.lk.b, .bool b.lk.ge, .bool b.lk.st, Z.u b.lk.l, Z.u b.lk.c, .bool b.ld] 229) (hB : Gs.Bw r c n b) {o : Gs.iW} (dG : Gs.ku w [o]) (hwo : Gs.zi o) (hlo : o.ds.length ≤ 100000 ∧ o.ps.length ≤ 100000) (na1 : [o] = [] ∨ ∀ k, Gs.jI [o] k → ¬ aH (.slice A n cp) k) (na2 : [o] = [] ∨ ∀ k, Gs.jI [o] k → k ≠ bp) (na3 : [o] = [] ∨ ∀ k, Gs.jI [o] k → k ≠ bb) :
    oX 189 #[Z.p bb, .agg (Gs.oe o).toArray] w fun e w' => ∃ v, e = .returned v ∧ v = Z.i (Gs.wW o.m b).2 ∧ Z.h w' bp #[Z.i r, Z.i c, .slice A n cp, Z.i (Gs.wW o.m b).1.cur] 91 ∧ Own B0 w' 37 5 (.slice A n cp) (rows Gs.cv (Gs.wW o.m b).1.cs) ∧ Z.h w' bb #[Z.p bp, Z.i (Gs.wW o.m b).1.at', Z.u (Gs.wW o.m b).1.lk.b, .bool (Gs.wW o.m b).1.lk.ge, .bool (Gs.wW o.m b).1.lk.st, Z.u (Gs.wW o.m b).1.lk.l, Z.u (Gs.wW o.m b).1.lk.c, .bool (Gs.wW o.m b).1.ld] 229 ∧ aA (fun k => (aH (.slice A n cp) k ∨ k = bp) ∨ k = bb) w w' := by
 refine aab.calls ?_
 unfold aab
 obtain ⟨hW, hat, hlw⟩ := id hB
 obtain ⟨hn, hcw, hcu, hp, hN, hb⟩ := id hW
 obtain ⟨a0, ha0⟩ := Int.eq_ofNat_of_zero_le hat.1
 have ha1 : a0 < n := by omega
 have hF : aA (fun k => (aH (.slice A n cp) k ∨ k = bp) ∨ k = bb) w w := Fr.refl _ _ _
 refine Z.x ((Gs.oe o).toArray) (fun b1 w1 e1 ah _ U1 => ?_)
 refine bP (fun g w' => ∃ (cs1 : List Gs.Cell), (cs1 = (if b.ld = true then (Gs.mM (b.cs.length - b.at'.toNat) b.cs b.at') else b.cs)) ∧ (n = cs1.length) ∧ (Gs.jh cs1) ∧ (Z.h w' bp #[Z.i r, Z.i c, .slice A n cp, Z.i b.cur] 91) ∧ (Own B0 w' 37 5 (.slice A n cp) (rows Gs.cv cs1)) ∧ (Z.h w' bb #[Z.p bp, Z.i b.at', Z.u b.lk.b, .bool b.lk.ge, .bool b.lk.st, Z.u b.lk.l, Z.u b.lk.c, .bool b.ld] 229) ∧ (aA (fun k => (aH (.slice A n cp) k ∨ k = bp) ∨ k = bb) w w')) (fun J1 hJ1 => ?_) (fun gJ1 jK hI => ?_)
 refine dw ?_
 refine Z.f 7 ?_
 replace aO := U1.af aO
 refine pW (kT (by kernel_rfl) aO (by rfl)) (fun h2 => ?_) (fun h2 => ?_)
 refine aK ?_
 replace ae := ae.ai U1
 replace ag := U1.af ag
 refine aN (acy (b := b) ag ae aO hB) (fun v3 w3 D3 => ?_)
 obtain ⟨N3, U3⟩ := D3
 have aJ := ae
 replace ag := U3.get ag (fun h => Own.aS aJ ag (by decide) _ h rfl)
 replace ae := N3
 replace aO := U3.get aO (fun h => Own.aS aJ aO (by decide) _ h rfl)
 replace hF := hF.go0 U1
 replace hF := hF.go U3 (fun i h hs => .inl (.inl hs))
 clear aJ
 refine hJ1 _ _ ?_
 exact ⟨_, (by (rw [if_pos (by assumption)])), (by (rw [Gs.QJ]; exact hn)), (by exact (Gs.PH hcw _ _ _ hcw).1), ag, ae, aO, hF⟩
 refine aF ?_
 refine hJ1 _ _ ?_
 replace ae := ae.ai U1
 replace ag := U1.af ag
 replace hF := hF.go0 U1
 exact ⟨_, (by (rw [if_neg (by simp_all)])), (by exact hn), (by exact hcw), ag, ae, aO, hF⟩
 replace ae := ae.ai U1
 replace ag := U1.af ag
 replace aO := U1.af aO
 replace hF := hF.go0 U1
 obtain ⟨cs1, hc1, hl1, hw1, ag, ae, aO, hF⟩ := hI
 refine bP (fun g w' => (none = Gs.xU (n - a0) cs1 (a0 : Int)) ∧ (Z.h w' bp #[Z.i r, Z.i c, .slice A n cp, Z.i b.cur] 91) ∧ (Own B0 w' 37 5 (.slice A n cp) (rows Gs.cv cs1)) ∧ (Z.h w' bb #[Z.p bp, Z.i b.at', Z.u b.lk.b, .bool b.lk.ge, .bool b.lk.st, Z.u b.lk.l, Z.u b.lk.c, .bool b.ld] 229) ∧ (aA (fun k => (aH (.slice A n cp) k ∨ k = bp) ∨ k = bb) w w')) (fun J2 hJ2 => ?_) (fun gJ2 Tm hI => ?_)
 refine dw ?_
 refine Z.f 1 ?_
 refine Z.l aO ?_
 refine eF (fun g w' => ∃ (k : Nat), (g 5 = Z.i (k : Int)) ∧ (k ≤ n) ∧ (Gs.xU (n - a0) cs1 (a0 : Int) = Gs.xU (n - k) cs1 (k : Int)) ∧ (Z.h w' bp #[Z.i r, Z.i c, .slice A n cp, Z.i b.cur] 91) ∧ (Own B0 w' 37 5 (.slice A n cp) (rows Gs.cv cs1)) ∧ (Z.h w' bb #[Z.p bp, Z.i b.at', Z.u b.lk.b, .bool b.lk.ge, .bool b.lk.st, Z.u b.lk.l, Z.u b.lk.c, .bool b.ld] 229) ∧ (aA (fun k => (aH (.slice A n cp) k ∨ k = bp) ∨ k = bb) w w')) (fun g w' => n - (RowKit.intOf (g 5)).toNat) ?_ (fun g3 wl3 hI => ?_)
 exact ⟨a0, (by rw [← ha0]; rfl), (by omega), rfl, ag, ae, aO, hF⟩
 obtain ⟨k, g5, hk, hti, ag, ae, aO, hF⟩ := hI
 rw [g5]
 refine dw ?_
 refine Z.f 0 ?_
 refine Z.l aO ?_
 refine aB (fK ag ae hl1) (fun w4 U4 => ?_)
 refine az (lss _ _ _ _) (fun h5 => ?_) (fun h5 => ?_)
 refine aK ?_
 refine dw ?_
 refine Z.f 0 ?_
 replace aO := U4.af aO
 refine Z.l aO ?_
 replace ae := ae.ai U4
 replace ag := U4.af ag
 refine aB (iw ag ae hl1 (i := (k : Int))) (fun w6 U6 => ?_)
 refine Z.n ((Gs.cv Gs.zc).toArray) (fun b7 w7 e7 lC _ U7 => ?_)
 replace ag := U6.af ag
 have zH : bp ≠ b7 := by have := ak ag; omega
 replace ae := ae.ai U6
 have xA := ae.apart e7
 replace aO := U6.af aO
 have LV : bb ≠ b7 := by have := ak aO; omega
 replace hF := (hF.go0 U4).go0 U6
 have uZ : w.heap.size ≤ b7 := by have := hF.size; omega
 refine Z.t 5 ((Gs.cv (Gs.bK cs1 (k : Int))).toArray) (by (simp [Value.cells, Value.oneCell', Gs.cv, Gs.fv, Gs.ie, Gs.pe, Gs.oe, Gs.cZ, Gs.fe, Gs.fE, Gs.ce, Gs.dZ]; done)) lC (fun w8 lC _ U8 => ?_)
 refine Z.f 2 ?_
 refine pW (kT (by kernel_rfl) lC (by rfl)) (fun h9 => ?_) (fun h9 => ?_)
 refine aX ?_
 refine Z.f 0 ?_
 refine aX ?_
 refine Z.l lC ?_
 refine aX ?_
 refine dU (ny (Gs.tu hw1 _)) (fun w10 aW h10 => ?_) (fun w10 aW h10 => ?_)
 simp only [Z.d, Z.c] at h10
 refine aX ?_
 refine au (kz) ?_
 refine aU (aF ?_)
 refine au (dL _ (by omega)) ?_
 replace ae := ((ae.ai U7).aG U8 xA).ai aW
 replace ag := aW.af (U8.aj (U7.af ag) zH)
 replace aO := aW.af (U8.aj (U7.af aO) LV)
 replace hF := ((hF.go0 U7).go1 U8 uZ).go0 aW
 exact ⟨⟨k + 1, rfl, (by omega), (hti.trans (Gs.acz rfl (by omega) (by rintro ⟨h1, h2⟩; (unfold Gs.qQ at h2; have := of_decide_eq_false h2; contradiction)))), ag, ae, aO, hF⟩, cnt_lt (by rfl) rfl (by omega)⟩
 simp only [Z.d, Z.c] at h10
 refine aX ?_
 refine au (nP) ?_
 refine aU (aK ?_)
 refine dw ?_
 refine Z.f 0 ?_
 replace aO := aW.af (U8.aj (U7.af aO) LV)
 refine Z.l aO ?_
 replace ae := ((ae.ai U7).aG U8 xA).ai aW
 replace ag := aW.af (U8.aj (U7.af ag) zH)
 refine aB (jZ ag ae hl1) (fun nT bJ => ?_)
 refine aB (mW (i := (k : Int)) (j := 1)) (fun w12 df => ?_)
 rw [hN, Gs.sF (by omega)]
 refine dw ?_
 refine Z.f 1 ?_
 replace aO := df.af (bJ.af aO)
 refine Z.s aO (fun uX aO _ dE => ?_)
 replace ae := (ae.ai bJ).ai df
 replace ae := ae.aG dE (Own.aS ae (by assumption) (by decide))
 replace ag := df.af (bJ.af ag)
 replace ag := dE.aj ag (by exact dP (by assumption) (by assumption) (by decide))
 replace hF := ((((hF.go0 U7).go1 U8 uZ).go0 aW).go0 bJ).go0 df
 replace hF := hF.go dE (fun i _ h => .inr h)
 rw [Gs.XL hc1 (Gs.aka ha0 hl1 hti (by omega) (by assumption) (by unfold Gs.qQ; exact decide_eq_false (by assumption)))]; exact ⟨_, rfl, rfl, ag, ae, aO, hF⟩
 refine aQ (aQ (aQ (aQ (aT (aF ?_)))))
 refine au (dL _ (by omega)) ?_
 replace ae := (ae.ai U7).aG U8 xA
 replace ag := U8.aj (U7.af ag) zH
 replace aO := U8.aj (U7.af aO) LV
 replace hF := (hF.go0 U7).go1 U8 uZ
 exact ⟨⟨k + 1, rfl, (by omega), (hti.trans (Gs.acz rfl (by omega) (by rintro ⟨h1, h2⟩; (simp_all; done)))), ag, ae, aO, hF⟩, cnt_lt (by rfl) rfl (by omega)⟩
 refine aF ?_
 refine hJ2 _ _ ?_
 replace ae := ae.ai U4
 replace ag := U4.af ag
 replace aO := U4.af aO
 replace hF := hF.go0 U4
 exact ⟨(hti.trans (Gs.akb rfl (by omega))).symm, ag, ae, aO, hF⟩
 obtain ⟨htn, ag, ae, aO, hF⟩ := hI
 refine dw ?_
 refine Z.f 1 ?_
 refine Z.s aO (fun tX aO _ bU => ?_)
 replace ae := ae.aG bU (Own.aS ae (by assumption) (by decide))
 replace ag := bU.aj ag (by exact dP (by assumption) (by assumption) (by decide))
 replace hF := hF.go bU (fun i _ h => .inr h)
 rw [Gs.XL hc1 (x := 0) (by rw [ha0]; exact Gs.acA (by rw [← hl1]; exact htn))]; exact ⟨_, rfl, rfl, ag, ae, aO, hF⟩
theorem WB {r c : Int} {A : Option Addr} {n cp bp bb B0 : Nat} {b : Gs.Br} {w : World} (ag : Z.h w bp #[Z.i r, Z.i c, .slice A n cp, Z.i b.cur] 91) (ae : Own B0 w 37 5 (.slice A n cp) (rows Gs.cv b.cs)) (aO : Z.h w bb #[Z.p bp, Z.i b.at', Z.u b.lk.b, .bool b.lk.ge, .bool b.lk.st, Z.u b.lk.l, Z.u b.lk.c, .bool b.ld] 229) (hB : Gs.Bw r c n b) {o : Gs.iW} (dG : Gs.ku w [o]) (hwo : Gs.zi o) (hlo : o.ds.length ≤ 100000 ∧ o.ps.length ≤ 100000) (na1 : [o] = [] ∨ ∀ k, Gs.jI [o] k → ¬ aH (.slice A n cp) k) (na2 : [o] = [] ∨ ∀ k, Gs.jI [o] k → k ≠ bp) (na3 : [o] = [] ∨ ∀ k, Gs.jI [o] k → k ≠ bb) :
    oX 190 #[Z.p bb, .agg (Gs.oe o).toArray] w fun e w' => ∃ v, e = .returned v ∧ v = Z.i (Gs.wu o.m b).2 ∧ Z.h w' bp #[Z.i r, Z.i c, .slice A n cp, Z.i (Gs.wu o.m b).1.cur] 91 ∧ Own B0 w' 37 5 (.slice A n cp) (rows Gs.cv (Gs.wu o.m b).1.cs) ∧ Z.h w' bb #[Z.p bp, Z.i (Gs.wu o.m b).1.at', Z.u (Gs.wu o.m b).1.lk.b, .bool (Gs.wu o.m b).1.lk.ge, .bool (Gs.wu o.m b).1.lk.st, Z.u (Gs.wu o.m b).1.lk.l, Z.u (Gs.wu o.m b).1.lk.c, .bool (Gs.wu o.m b).1.ld] 229 ∧ aA (fun k => (aH (.slice A n cp) k ∨ k = bp) ∨ k = bb) w w' := by
 refine aac.calls ?_
 unfold aac
 obtain ⟨hW, hat, hlw⟩ := id hB
 obtain ⟨hn, hcw, hcu, hp, hN, hb⟩ := id hW
 obtain ⟨hok, hob, hod, hop⟩ := id hwo
 have hF : aA (fun k => (aH (.slice A n cp) k ∨ k = bp) ∨ k = bb) w w := Fr.refl _ _ _
 refine Z.x ((Gs.oe o).toArray) (fun b1 w1 e1 ah _ U1 => ?_)
 have kD : bp ≠ b1 := by have := ak ag; omega
 have C9 : bb ≠ b1 := by have := ak aO; omega
 refine dw ?_
 refine Z.f 1 ?_
 replace aO := U1.af aO
 refine Z.l aO ?_
 refine Z.b 6 ((Gs.oe o).toArray) ah ?_
 replace ae := ae.ai U1
 replace dG := dG.ai U1
 replace ag := U1.af ag
 refine aN (Jo ag ae aO hB dG hwo hlo na1 na2 na3) (fun v2 w2 D2 => ?_)
 have aJ := ae
 replace hF := hF.go0 U1
 have qF2 := hF.size
 obtain ⟨rfl, ag, ae, aO, U2⟩ := D2
 replace ah := U2.get ah (fun hs => by rcases hs with (hs | hs) | hs <;> first | (first | exact Own.aS aJ ah (by decide) _ hs rfl | (have := Own.ge aJ hs; omega)) | (exact absurd hs (Ne.symm kD)) | (exact absurd hs (Ne.symm C9)))
 replace hF := hF.go U2 (fun i hi hs => by exact hs)
 clear aJ
 refine az (jQ _ _ _ _ _) (fun h3 => ?_) (fun h3 => ?_)
 refine aK ?_
 rw [Gs.XM (by assumption)] at ag ae aO ⊢; rw [Gs.akc (o := o.m) (b := b) (Gs.LW (by assumption))]; exact ⟨_, rfl, rfl, ag, ae, aO, hF⟩
 refine aF ?_
 refine dK (S := no) (fun w5 U5 => ?_)
 have hj := Gs.XN (o := o.m) (b := b) (by assumption)
 replace ae := ae.ai U5
 replace aO := U5.af aO
 replace ag := U5.af ag
 rw [Gs.J8 hj] at ag ae aO
 dsimp only at ag ae aO
 refine eG ?_
 refine Z.g 0 ?_
 refine Z.m aO ?_
 refine eG ?_
 refine Z.g 1 ?_
 refine Z.m aO ?_
 refine Z.g 2 ?_
 replace ah := U5.af ah
 refine Z.m ah ?_
 refine Z.g 3 ?_
 refine Z.m ah ?_
 refine fM (fun w' hw' => by have aO := hw'.af aO; exact Jm (b := ({ b with at' := o.a } : Gs.Br)) aO (x := o.b) (g := o.ge)) ?_
 refine aI (fun w7 U7 => ?_)
 replace ae := ae.ai U7
 replace ag := U7.af ag
 refine aN (I5 ag ae hn (i := b.at') (j := o.a) (x := Gs.wL b o.b o.ge) hN) (fun v8 w8 D8 => ?_)
 obtain ⟨rfl, N8, U8⟩ := D8
 have aJ := ae
 replace aO := U7.af aO
 replace aO := U8.get aO (fun h => Own.aS aJ aO (by decide) _ h rfl)
 replace ag := U8.get ag (fun h => Own.aS aJ ag (by decide) _ h rfl)
 replace ae := N8
 replace hF := (hF.go0 U5).go0 U7
 replace hF := hF.go U8 (fun i h hs => .inl (.inl hs))
 clear aJ
 rw [show Gs.aZ r c = (b.cs.length : Int) by rw [hN, ← hn]] at ae
 refine aI (fun w9 U9 => ?_)
 replace ae := ae.ai U9
 replace aO := U9.af aO
 replace ag := U9.af ag
 replace hF := hF.go0 U9
 rw [Gs.akd (o := o.m) (b := b) hj]; exact ⟨_, rfl, rfl, ag, ae, aO, hF⟩
theorem acB {r c : Int} {A : Option Addr} {n cp bp bb B0 : Nat} {b : Gs.Br} {w : World} (ag : Z.h w bp #[Z.i r, Z.i c, .slice A n cp, Z.i b.cur] 91) (ae : Own B0 w 37 5 (.slice A n cp) (rows Gs.cv b.cs)) (aO : Z.h w bb #[Z.p bp, Z.i b.at', Z.u b.lk.b, .bool b.lk.ge, .bool b.lk.st, Z.u b.lk.l, Z.u b.lk.c, .bool b.ld] 229) (hB : Gs.Bw r c n b) {o : Gs.iW} (dG : Gs.ku w [o]) (hwo : Gs.zi o) (hlo : o.ds.length ≤ 100000 ∧ o.ps.length ≤ 100000) (na1 : [o] = [] ∨ ∀ k, Gs.jI [o] k → ¬ aH (.slice A n cp) k) (na2 : [o] = [] ∨ ∀ k, Gs.jI [o] k → k ≠ bp) (na3 : [o] = [] ∨ ∀ k, Gs.jI [o] k → k ≠ bb) :
    oX 191 #[Z.p bb, .agg (Gs.oe o).toArray] w fun e w' => ∃ v, e = .returned v ∧ v = Z.i (Gs.rJ o.m b).2 ∧ Z.h w' bp #[Z.i r, Z.i c, .slice A n cp, Z.i (Gs.rJ o.m b).1.cur] 91 ∧ Own B0 w' 37 5 (.slice A n cp) (rows Gs.cv (Gs.rJ o.m b).1.cs) ∧ Z.h w' bb #[Z.p bp, Z.i (Gs.rJ o.m b).1.at', Z.u (Gs.rJ o.m b).1.lk.b, .bool (Gs.rJ o.m b).1.lk.ge, .bool (Gs.rJ o.m b).1.lk.st, Z.u (Gs.rJ o.m b).1.lk.l, Z.u (Gs.rJ o.m b).1.lk.c, .bool (Gs.rJ o.m b).1.ld] 229 ∧ aA (fun k => (aH (.slice A n cp) k ∨ k = bp) ∨ k = bb) w w' := by
 refine aad.calls ?_
 unfold aad
 obtain ⟨hW, hat, hlw⟩ := id hB
 obtain ⟨hn, hcw, hcu, hp, hN, hb⟩ := id hW
 have wJ := ak ag
 have l7 := Own.lt ae
 have lt_h_bb := ak aO
 have ake := dG.lt
 have hF : aA (fun k => (aH (.slice A n cp) k ∨ k = bp) ∨ k = bb) w w := Fr.refl _ _ _
 refine Z.x _ (fun b1 w1 e1 ah _ U1 => ?_)
 have kD : bp ≠ b1 := by have := ak ag; omega
 have ik := ae.apart e1
 have C9 : bb ≠ b1 := by have := ak aO; omega
 have anA := dG.apart e1
 have bZ : w.heap.size ≤ b1 := by have := hF.size; omega
 refine Z.x ((Gs.oe o).toArray) (fun b2 w2 e2 ax _ U2 => ?_)
 replace ag := U1.af ag
 have eY : bp ≠ b2 := by have := ak ag; omega
 replace ae := ae.ai U1
 have dH := ae.apart e2
 replace aO := U1.af aO
 have aex : bb ≠ b2 := by have := ak aO; omega
 replace dG := dG.ai U1
 have anB := dG.apart e2
 have lS : b1 ≠ b2 := by have := ak ah; omega
 replace hF := hF.go0 U1
 have eU : w.heap.size ≤ b2 := by have := hF.size; omega
 replace ah := U2.af ah
 refine Z.l ah ?_
 refine dw ?_
 refine Z.f 1 ?_
 replace aO := U2.af aO
 refine Z.l aO ?_
 refine Z.l ah ?_
 refine Z.b 6 ((Gs.oe o).toArray) ax ?_
 replace ae := ae.ai U2
 replace dG := dG.ai U2
 replace ag := U2.af ag
 refine aN (Jo ag ae aO hB dG hwo hlo na1 na2 na3) (fun v3 w3 D3 => ?_)
 have aJ := ae
 replace hF := hF.go0 U2
 have qF3 := hF.size
 obtain ⟨rfl, ag, ae, aO, U3⟩ := D3
 replace dG := dG.dY U3 (na1.elim .inl fun h0 => na2.elim .inl fun h1 => na3.elim .inl fun h2 => .inr fun k hk hs => by rcases hs with (hs | hs) | hs <;> first | exact h0 k hk hs | exact h1 k hk hs | exact h2 k hk hs)
 replace ah := U3.get ah (fun hs => by rcases hs with (hs | hs) | hs <;> first | (first | exact Own.aS aJ ah (by decide) _ hs rfl | (have := Own.ge aJ hs; omega)) | (exact absurd hs (Ne.symm kD)) | (exact absurd hs (Ne.symm C9)))
 replace ax := U3.get ax (fun hs => by rcases hs with (hs | hs) | hs <;> first | (first | exact Own.aS aJ ax (by decide) _ hs rfl | (have := Own.ge aJ hs; omega)) | (exact absurd hs (Ne.symm eY)) | (exact absurd hs (Ne.symm aex)))
 replace hF := hF.go U3 (fun i hi hs => by exact hs)
 clear aJ
 refine az (jQ _ _ _ _ _) (fun h4 => ?_) (fun h4 => ?_)
 refine aK ?_
 show lX [] _ _
 rw [Gs.XM (by assumption)] at ag ae aO ⊢; rw [Gs.ah1 (o := o.m) (b := b) (Gs.LW (by assumption))]; exact ⟨_, rfl, rfl, ag, ae, aO, hF⟩
 refine aF ?_
 refine bP (fun g w' => ∃ (D2 : Nat), (g 1000000 = mkV D2 undef) ∧ (w.heap.size ≤ D2) ∧ (w'.heap[D2]? = some (.deferred (some []))) ∧ (¬ (o.a < 0 ∨ (b.cs.length : Int) ≤ o.a)) ∧ (Z.h w' bp #[Z.i r, Z.i c, .slice A n cp, Z.i b.cur] 91) ∧ (Own B0 w' 37 5 (.slice A n cp) (rows Gs.cv (Gs.pF b.cs (Gs.qL (Gs.aZ r c) b.at' o.a)))) ∧ (Z.h w' bb #[Z.p bp, Z.i ({ b with at' := o.a } : Gs.Br).at', Z.u ({ b with at' := o.a } : Gs.Br).lk.b, .bool ({ b with at' := o.a } : Gs.Br).lk.ge, .bool ({ b with at' := o.a } : Gs.Br).lk.st, Z.u ({ b with at' := o.a } : Gs.Br).lk.l, Z.u ({ b with at' := o.a } : Gs.Br).lk.c, .bool ({ b with at' := o.a } : Gs.Br).ld] 229) ∧ (aA (fun k => (aH (.slice A n cp) k ∨ k = bp) ∨ k = bb) w w')) (fun J1 hJ1 => ?_) (fun gJ1 jK hI => ?_)
 refine dK (S := no) (fun w7 U7 => ?_)
 replace dG := dG.ai U7
 replace ae := ae.ai U7
 replace ah := U7.af ah
 replace ax := U7.af ax
 replace aO := U7.af aO
 replace ag := U7.af ag
 replace hF := hF.go0 U7
 have hj := Gs.XN (o := o.m) (b := b) (by assumption)
 rw [Gs.J8 hj] at ag ae aO
 dsimp only at ag ae aO
 refine Z.m ah ?_
 refine eG ?_
 refine Z.g 0 ?_
 refine Z.m aO ?_
 refine fM (fun w' hw' => by have ag := hw'.af ag; have ae := ae.ai hw'; exact jZ ag ae hn) ?_
 refine Z.m ah ?_
 refine eG ?_
 refine Z.g 1 ?_
 refine Z.m aO ?_
 refine aI (fun w9 U9 => ?_)
 refine aN (Fg (r := r) (c := c) (i := b.at') (j := o.a)) (fun v10 w10 D10 => ?_)
 obtain ⟨b3_28, b4_28, b5_28, rfl, g3_28, g4_28, g5_28, kW, kX, kY, aW⟩ := D10
 replace dG := dG.ai U9
 have akf := (dG.lt).ne (b := b3_28) (by omega)
 replace ah := U9.af ah
 have alH : b1 ≠ b3_28 := by have := ak ah; omega
 replace ax := U9.af ax
 have alI : b2 ≠ b3_28 := by have := ak ax; omega
 replace aO := U9.af aO
 have alJ : bb ≠ b3_28 := by have := ak aO; omega
 replace ag := U9.af ag
 have alK : bp ≠ b3_28 := by have := ak ag; omega
 replace ae := ae.ai U9
 have PI : ∀ k, aH _ k → k ≠ b3_28 := fun k hk => by have := (Own.ge ae hk).2; omega
 replace hF := hF.go0 U9
 have aoC : w.heap.size ≤ b3_28 := by have := hF.size; omega
 have akg := (dG.lt).ne (b := b4_28) (by omega)
 have alL : b1 ≠ b4_28 := by have := ak ah; omega
 have alM : b2 ≠ b4_28 := by have := ak ax; omega
 have alN : bb ≠ b4_28 := by have := ak aO; omega
 have alO : bp ≠ b4_28 := by have := ak ag; omega
 have PK : ∀ k, aH _ k → k ≠ b4_28 := fun k hk => by have := (Own.ge ae hk).2; omega
 have aoD : w.heap.size ≤ b4_28 := by have := hF.size; omega
 have akh := (dG.lt).ne (b := b5_28) (by omega)
 have alP : b1 ≠ b5_28 := by have := ak ah; omega
 have alQ : b2 ≠ b5_28 := by have := ak ax; omega
 have alR : bb ≠ b5_28 := by have := ak aO; omega
 have alS : bp ≠ b5_28 := by have := ak ag; omega
 have PL : ∀ k, aH _ k → k ≠ b5_28 := fun k hk => by have := (Own.ge ae hk).2; omega
 have aoE : w.heap.size ≤ b5_28 := by have := hF.size; omega
 refine aI (fun nT bJ => ?_)
 refine um (by kernel_rfl) (fun w12 l2 D2 Rdy2 Bsy2 Dn2 y2 eD el bg bD lp1 lp2 lp3 sz12 df hY => ?_)
 have lp2_2 := lp2
 replace dG := (dG.ai aW).ai bJ
 have anC := (dG.lt).ne (b := D2) (by omega)
 have anD := (dG.lt).ne (b := l2) (by omega)
 replace ah := bJ.af (aW.af ah)
 have TZ : b1 ≠ D2 := by have := ak ah; omega
 have iK : b1 ≠ l2 := by have := ak ah; omega
 replace ax := bJ.af (aW.af ax)
 have uq : b2 ≠ D2 := by have := ak ax; omega
 have gJ : b2 ≠ l2 := by have := ak ax; omega
 replace aO := bJ.af (aW.af aO)
 have aoF : bb ≠ D2 := by have := ak aO; omega
 have GL : bb ≠ l2 := by have := ak aO; omega
 replace ag := bJ.af (aW.af ag)
 have TY : bp ≠ D2 := by have := ak ag; omega
 have iF : bp ≠ l2 := by have := ak ag; omega
 replace ae := (ae.ai aW).ai bJ
 have sG : ∀ k, aH _ k → k ≠ D2 := fun k hk => by have := (Own.ge ae hk).2; omega
 have eQ : ∀ k, aH _ k → k ≠ l2 := fun k hk => by have := (Own.ge ae hk).2; omega
 replace kW := bJ.af kW
 have alT : b3_28 ≠ D2 := by have := ak kW; omega
 have zT : b3_28 ≠ l2 := by have := ak kW; omega
 replace kX := bJ.af kX
 have alU : b4_28 ≠ D2 := by have := ak kX; omega
 have zU : b4_28 ≠ l2 := by have := ak kX; omega
 replace kY := bJ.af kY
 have alV : b5_28 ≠ D2 := by have := ak kY; omega
 have zV : b5_28 ≠ l2 := by have := ak kY; omega
 replace hF := (hF.go0 aW).go0 bJ
 have nN : w.heap.size ≤ D2 := by have := hF.size; omega
 have jJ : w.heap.size ≤ l2 := by have := hF.size; omega
 have fD : D2 ≠ l2 := by omega
 replace ae := ae.ai df
 replace ah := df.af ah
 replace aO := df.af aO
 replace ag := df.af ag
 replace kW := df.af kW
 replace kX := df.af kX
 replace kY := df.af kY
 replace hF := hF.go0 df
 refine Calls.mono (Dc (b3 := b3_28) (b4 := b4_28) (b5 := b5_28) (J := (fun (k : Nat) (w' : World) => (Z.h w' bp #[Z.i r, Z.i c, .slice A n cp, Z.i b.cur] 91) ∧ (Own B0 w' 37 5 (.slice A n cp) (rows Gs.cv (Gs.pF b.cs ((Gs.qL (Gs.aZ r c) b.at' o.a).take k)))) ∧ (Z.h w' bb #[Z.p bp, Z.i ({ b with at' := o.a } : Gs.Br).at', Z.u ({ b with at' := o.a } : Gs.Br).lk.b, .bool ({ b with at' := o.a } : Gs.Br).lk.ge, .bool ({ b with at' := o.a } : Gs.Br).lk.st, Z.u ({ b with at' := o.a } : Gs.Br).lk.l, Z.u ({ b with at' := o.a } : Gs.Br).lk.c, .bool ({ b with at' := o.a } : Gs.Br).ld] 229) ∧ (Z.h w' b1 #[Z.p bb] 227) ∧ (Z.h w' b3_28 #[Z.i r, Z.i c] 32) ∧ (Z.h w' b4_28 #[Z.i b.at'] 3) ∧ (Z.h w' b5_28 #[Z.i o.a] 3) ∧ (w'.heap[D2]? = some (.deferred (some []))) ∧ (w'.heap[l2]? = some Rdy2) ∧ (aA (fun k => (aH (.slice A n cp) k ∨ k = bp) ∨ k = bb) w w'))) (X := (fun _ => False)) (fun _ w' hJ => by obtain ⟨ag, ae, aO, ah, kW, kX, kY, bg, bD, hF⟩ := hJ; exact ⟨kW, kX, kY⟩) (fun _ w' w'' hJ U' => by obtain ⟨ag, ae, aO, ah, kW, kX, kY, bg, bD, hF⟩ := hJ; exact ⟨U'.af ag, ae.ai U', U'.af aO, U'.af ah, U'.af kW, U'.af kX, U'.af kY, U'.af bg, U'.af bD, hF.go0 U'⟩) ?_ ?_) ?_
 intro k qI xk hx hI
 obtain ⟨ag, ae, aO, ah, kW, kX, kY, bg, bD, hF⟩ := hI
 have hwk := Gs.Fh hcw ((Gs.qL (Gs.aZ r c) b.at' o.a).take k)
 have hlk := hn.trans hwk.2.symm
 refine hY [Z.i xk] _ _ rfl bD ?_
 simp only [List.getD_cons_zero, List.getD_cons_succ]
 refine xn bD (fun uX bD _ dE => ?_)
 replace ah := dE.aj ah iK
 refine Z.l ah ?_
 refine dw ?_
 refine Z.f 0 ?_
 replace aO := dE.aj aO GL
 refine Z.l aO ?_
 replace ae := ae.aG dE eQ
 replace ag := dE.aj ag iF
 refine dU (mV ag ae hlk hN hb hwk.1 (i := xk)) (fun sJ dm h14 => ?_) (fun sJ dm h14 => ?_)
 refine aK ?_
 replace ah := dm.af ah
 refine Z.l ah ?_
 refine dw ?_
 refine Z.f 0 ?_
 replace aO := dm.af aO
 refine Z.l aO ?_
 refine au (bG (l := [(0, 1), (1, 1), (2, 1), (3, 1), (4, 1)]) (z := #[Z.u 0, .bool false, .bool false, Z.u 0, Z.u 0]) (cs := (Gs.cv Gs.zc)) (by kernel_rfl) (by rfl)) ?_
 replace ae := ae.ai dm
 replace ag := dm.af ag
 refine aN (jv ag ae hlk (i := xk) (x := Gs.zc)) (fun v15 tX D15 => ?_)
 obtain ⟨rfl, N15, bU⟩ := D15
 have aJ := ae
 replace ag := bU.get ag (fun h => Own.aS aJ ag (by decide) _ h rfl)
 replace ae := N15
 replace aO := bU.get aO (fun h => Own.aS aJ aO (by decide) _ h rfl)
 replace ah := bU.get ah (fun h => ik _ h rfl)
 replace kW := dm.af (dE.aj kW zT)
 replace kW := bU.get kW (fun h => PI _ h rfl)
 replace kX := dm.af (dE.aj kX zU)
 replace kX := bU.get kX (fun h => PK _ h rfl)
 replace kY := dm.af (dE.aj kY zV)
 replace kY := bU.get kY (fun h => PL _ h rfl)
 replace bg := dm.af (dE.aj bg fD)
 replace bg := bU.get bg (fun h => sG _ h rfl)
 replace bD := dm.af bD
 replace bD := bU.get bD (fun h => eQ _ h rfl)
 replace hF := (hF.go1 dE jJ).go0 dm
 replace hF := hF.go bU (fun i h hs => .inl (.inl hs))
 clear aJ
 refine sD bD (fun w16 bD _ bQ => ?_)
 replace ae := ae.aG bQ eQ
 replace ag := bQ.aj ag iF
 replace aO := bQ.aj aO GL
 replace ah := bQ.aj ah iK
 replace kW := bQ.aj kW zT
 replace kX := bQ.aj kX zU
 replace kY := bQ.aj kY zV
 replace bg := bQ.aj bg fD
 replace hF := hF.go1 bQ jJ
 exact ⟨ag, (by rw [Gs.BF hx]; (rw [if_pos (by assumption)]; exact ae)), aO, ah, kW, kX, kY, bg, bD, hF⟩
 refine aF ?_
 replace bD := dm.af bD
 refine sD bD (fun uY bD _ dh => ?_)
 replace kW := dh.aj (dm.af (dE.aj kW zT)) zT
 replace kX := dh.aj (dm.af (dE.aj kX zU)) zU
 replace kY := dh.aj (dm.af (dE.aj kY zV)) zV
 replace bg := dh.aj (dm.af (dE.aj bg fD)) fD
 replace hF := ((hF.go1 dE jJ).go0 dm).go1 dh jJ
 replace ae := (ae.ai dm).aG dh eQ
 replace ag := dh.aj (dm.af ag) iF
 replace aO := dh.aj (dm.af aO) GL
 replace ah := dh.aj (dm.af ah) iK
 exact ⟨ag, (by rw [Gs.BF hx]; (rw [if_neg (Bool.eq_false_iff.1 (by assumption))]; exact ae)), aO, ah, kW, kX, kY, bg, bD, hF⟩
 exact ⟨ag, (by simpa [Gs.pF] using ae), aO, ah, kW, kX, kY, bg, bD, hF⟩
 rintro e wE2 ⟨hv, hI | hI⟩
 obtain ⟨ag, ae, aO, ah, kW, kX, kY, bg, bD, hF⟩ := hI
 refine ⟨hv, .inl ⟨bD, fun xh _ dO => ?_⟩⟩
 refine hJ1 _ _ ?_
 replace ae := ae.aG dO eQ
 replace ag := dO.aj ag iF
 replace aO := dO.aj aO GL
 replace bg := dO.aj bg fD
 replace hF := hF.go1 dO jJ
 exact ⟨_, (by rfl), nN, bg, hj, ag, (by rw [List.take_of_length_le (Nat.le_refl _)] at ae; exact ae), aO, hF⟩
 exact hI.elim
 obtain ⟨D2, g1000000, nN, bg, hj, ag, ae, aO, hF⟩ := hI
 rw [g1000000]
 refine leave1 bg (fun wY _ dR => ?_)
 replace ae := ae.aG dR (Own.lq ae (by assumption))
 replace ag := dR.aj ag (by omega)
 replace aO := dR.aj aO (by omega)
 replace hF := hF.go1 dR nN
 rw [Gs.ah2 (o := o.m) (b := b) hj, show (b.cs.length : Int) = Gs.aZ r c by rw [hN, ← hn]]; exact ⟨_, rfl, rfl, ag, ae, aO, hF⟩
set_option maxHeartbeats 1000000 in
theorem ah3 {r c : Int} {A : Option Addr} {n cp bp bb B0 : Nat} {b : Gs.Br} {w : World} (ag : Z.h w bp #[Z.i r, Z.i c, .slice A n cp, Z.i b.cur] 91) (ae : Own B0 w 37 5 (.slice A n cp) (rows Gs.cv b.cs)) (aO : Z.h w bb #[Z.p bp, Z.i b.at', Z.u b.lk.b, .bool b.lk.ge, .bool b.lk.st, Z.u b.lk.l, Z.u b.lk.c, .bool b.ld] 229) (hB : Gs.Bw r c n b) {o : Gs.iW} (dG : Gs.ku w [o]) (hwo : Gs.zi o) (hlo : o.ds.length ≤ 100000 ∧ o.ps.length ≤ 100000) (na1 : [o] = [] ∨ ∀ k, Gs.jI [o] k → ¬ aH (.slice A n cp) k) (na2 : [o] = [] ∨ ∀ k, Gs.jI [o] k → k ≠ bp) (na3 : [o] = [] ∨ ∀ k, Gs.jI [o] k → k ≠ bb) :
    oX 171 #[Z.p bb, .agg (Gs.oe o).toArray] w fun e w' => ∃ v, e = .returned v ∧ v = Z.i (Gs.ug o.m b).2 ∧ Z.h w' bp #[Z.i r, Z.i c, .slice A n cp, Z.i (Gs.ug o.m b).1.cur] 91 ∧ Own B0 w' 37 5 (.slice A n cp) (rows Gs.cv (Gs.ug o.m b).1.cs) ∧ Z.h w' bb #[Z.p bp, Z.i (Gs.ug o.m b).1.at', Z.u (Gs.ug o.m b).1.lk.b, .bool (Gs.ug o.m b).1.lk.ge, .bool (Gs.ug o.m b).1.lk.st, Z.u (Gs.ug o.m b).1.lk.l, Z.u (Gs.ug o.m b).1.lk.c, .bool (Gs.ug o.m b).1.ld] 229 ∧ aA (fun k => (aH (.slice A n cp) k ∨ k = bp) ∨ k = bb) w w' := by
 refine ZT.calls ?_
 unfold ZT
 obtain ⟨hW, hat, hlw⟩ := id hB
 obtain ⟨hn, hcw, hcu, hp, hN, hb⟩ := id hW
 have hF : aA (fun k => (aH (.slice A n cp) k ∨ k = bp) ∨ k = bb) w w := Fr.refl _ _ _
 refine Z.x ((Gs.oe o).toArray) (fun b1 w1 e1 ah _ U1 => ?_)
 have kD : bp ≠ b1 := by have := ak ag; omega
 have C9 : bb ≠ b1 := by have := ak aO; omega
 refine bP (fun g w' => ∃ (m : Nat) (f : Gs.iT → Gs.Br → Gs.Br × Int), (g 5 = .func (.func m) #[] #[]) ∧ (((Tryz.prog.funcs[m]?).any fun fn => fn.body.isSome && !(fn.name == "runtime.NumGoroutine")) = true) ∧ (Gs.oH o.m.k = some f) ∧ (BrC m f o r c A n cp bp bb B0 b) ∧ (Z.h w' bp #[Z.i r, Z.i c, .slice A n cp, Z.i b.cur] 91) ∧ (Own B0 w' 37 5 (.slice A n cp) (rows Gs.cv b.cs)) ∧ (Z.h w' bb #[Z.p bp, Z.i b.at', Z.u b.lk.b, .bool b.lk.ge, .bool b.lk.st, Z.u b.lk.l, Z.u b.lk.c, .bool b.ld] 229) ∧ (Gs.ku w' [o]) ∧ (Z.h w' b1 ((Gs.oe o).toArray) 209) ∧ (aA (fun k => (aH (.slice A n cp) k ∨ k = bp) ∨ k = bb) w w')) (fun J1 hJ1 => ?_) (fun gJ1 jK hI => ?_)
 refine Z.f 0 ?_
 refine Z.l ah ?_
 refine az (cu _ _ _ _ _) (fun h2 => ?_) (fun h2 => ?_)
 refine aK ?_
 refine hJ1 _ _ ?_
 replace ae := ae.ai U1
 replace dG := dG.ai U1
 replace ag := U1.af ag
 replace aO := U1.af aO
 replace hF := hF.go0 U1
 exact ⟨182, Gs.xJ, (by rfl), by kernel_rfl, (by show Gs.oH o.k = some _; unfold Gs.oH; repeat (first | rw [if_pos (by omega)] | rw [if_neg (by omega)])), (fun h1 h2 h3 h4 => acu h1 h2 h3 hB h4 hwo hlo na1 na2 na3), ag, ae, aO, dG, ah, hF⟩
 refine aF ?_
 refine az (cu _ _ _ _ _) (fun h3 => ?_) (fun h3 => ?_)
 refine aK ?_
 refine hJ1 _ _ ?_
 replace ae := ae.ai U1
 replace dG := dG.ai U1
 replace ag := U1.af ag
 replace aO := U1.af aO
 replace hF := hF.go0 U1
 exact ⟨183, Gs.xK, (by rfl), by kernel_rfl, (by show Gs.oH o.k = some _; unfold Gs.oH; repeat (first | rw [if_pos (by omega)] | rw [if_neg (by omega)])), (fun h1 h2 h3 h4 => UR h1 h2 h3 hB h4 hwo hlo na1 na2 na3), ag, ae, aO, dG, ah, hF⟩
 refine aF ?_
 refine az (cu _ _ _ _ _) (fun h4 => ?_) (fun h4 => ?_)
 refine aK ?_
 refine hJ1 _ _ ?_
 replace ae := ae.ai U1
 replace dG := dG.ai U1
 replace ag := U1.af ag
 replace aO := U1.af aO
 replace hF := hF.go0 U1
 exact ⟨184, Gs.pz, (by rfl), by kernel_rfl, (by show Gs.oH o.k = some _; unfold Gs.oH; repeat (first | rw [if_pos (by omega)] | rw [if_neg (by omega)])), (fun h1 h2 h3 h4 => Jo h1 h2 h3 hB h4 hwo hlo na1 na2 na3), ag, ae, aO, dG, ah, hF⟩
 refine aF ?_
 refine bP (fun g w' => (g 15 = .bool (decide (o.k = 29 ∨ o.k = 41))) ∧ (Z.h w' bp #[Z.i r, Z.i c, .slice A n cp, Z.i b.cur] 91) ∧ (Own B0 w' 37 5 (.slice A n cp) (rows Gs.cv b.cs)) ∧ (Z.h w' bb #[Z.p bp, Z.i b.at', Z.u b.lk.b, .bool b.lk.ge, .bool b.lk.st, Z.u b.lk.l, Z.u b.lk.c, .bool b.ld] 229) ∧ (Gs.ku w' [o]) ∧ (Z.h w' b1 ((Gs.oe o).toArray) 209) ∧ (aA (fun k => (aH (.slice A n cp) k ∨ k = bp) ∨ k = bb) w w')) (fun J2 hJ2 => ?_) (fun gJ2 Tm hI => ?_)
 refine az (cu _ _ _ _ _) (fun h5 => ?_) (fun h5 => ?_)
 refine aK ?_
 refine hJ2 _ _ ?_
 replace ae := ae.ai U1
 replace dG := dG.ai U1
 replace ag := U1.af ag
 replace aO := U1.af aO
 replace hF := hF.go0 U1
 exact ⟨(by exact congrArg Value.bool (decide_eq_true (by omega)).symm), ag, ae, aO, dG, ah, hF⟩
 refine aF ?_
 refine az (cu _ _ _ _ _) (fun h6 => ?_) (fun h6 => ?_)
 refine hJ2 _ _ ?_
 replace ae := ae.ai U1
 replace dG := dG.ai U1
 replace ag := U1.af ag
 replace aO := U1.af aO
 replace hF := hF.go0 U1
 exact ⟨(by exact congrArg Value.bool (decide_eq_true (by omega)).symm), ag, ae, aO, dG, ah, hF⟩
 refine hJ2 _ _ ?_
 replace ae := ae.ai U1
 replace dG := dG.ai U1
 replace ag := U1.af ag
 replace aO := U1.af aO
 replace hF := hF.go0 U1
 exact ⟨(by exact congrArg Value.bool (decide_eq_false (by omega)).symm), ag, ae, aO, dG, ah, hF⟩
 replace ae := ae.ai U1
 replace dG := dG.ai U1
 replace ag := U1.af ag
 replace aO := U1.af aO
 replace hF := hF.go0 U1
 obtain ⟨g15, ag, ae, aO, dG, ah, hF⟩ := hI
 rw [g15]
 refine jX (fun h7 => ?_) (fun h7 => ?_)
 simp only [Z.d, Z.c] at h7
 refine hJ1 _ _ ?_
 exact ⟨185, Gs.uH, (by rfl), by kernel_rfl, (by show Gs.oH o.k = some _; unfold Gs.oH; repeat (first | rw [if_pos (by omega)] | rw [if_neg (by omega)])), (fun h1 h2 h3 h4 => aaF h1 h2 h3 hB h4 hwo hlo na1 na2 na3), ag, ae, aO, dG, ah, hF⟩
 simp only [Z.d, Z.c] at h7
 refine az (cu _ _ _ _ _) (fun h8 => ?_) (fun h8 => ?_)
 refine aK ?_
 refine hJ1 _ _ ?_
 exact ⟨186, Gs.uI, (by rfl), by kernel_rfl, (by show Gs.oH o.k = some _; unfold Gs.oH; repeat (first | rw [if_pos (by omega)] | rw [if_neg (by omega)])), (fun h1 h2 h3 h4 => aaG h1 h2 h3 hB h4 hwo hlo na1 na2 na3), ag, ae, aO, dG, ah, hF⟩
 refine aF ?_
 refine az (cu _ _ _ _ _) (fun h9 => ?_) (fun h9 => ?_)
 refine aK ?_
 refine hJ1 _ _ ?_
 exact ⟨187, Gs.nH, (by rfl), by kernel_rfl, (by show Gs.oH o.k = some _; unfold Gs.oH; repeat (first | rw [if_pos (by omega)] | rw [if_neg (by omega)])), (fun h1 h2 h3 h4 => Wy h1 h2 h3 hB h4 hwo hlo na1 na2 na3), ag, ae, aO, dG, ah, hF⟩
 refine aF ?_
 refine az (cu _ _ _ _ _) (fun h10 => ?_) (fun h10 => ?_)
 refine aK ?_
 refine hJ1 _ _ ?_
 exact ⟨188, Gs.rq, (by rfl), by kernel_rfl, (by show Gs.oH o.k = some _; unfold Gs.oH; repeat (first | rw [if_pos (by omega)] | rw [if_neg (by omega)])), (fun h1 h2 h3 h4 => WA h1 h2 h3 hB h4 hwo hlo na1 na2 na3), ag, ae, aO, dG, ah, hF⟩
 refine aF ?_
 refine az (cu _ _ _ _ _) (fun h11 => ?_) (fun h11 => ?_)
 refine aK ?_
 refine hJ1 _ _ ?_
 exact ⟨189, Gs.wW, (by rfl), by kernel_rfl, (by show Gs.oH o.k = some _; unfold Gs.oH; repeat (first | rw [if_pos (by omega)] | rw [if_neg (by omega)])), (fun h1 h2 h3 h4 => aew h1 h2 h3 hB h4 hwo hlo na1 na2 na3), ag, ae, aO, dG, ah, hF⟩
 refine aF ?_
 refine az (cu _ _ _ _ _) (fun h12 => ?_) (fun h12 => ?_)
 refine aK ?_
 refine hJ1 _ _ ?_
 exact ⟨190, Gs.wu, (by rfl), by kernel_rfl, (by show Gs.oH o.k = some _; unfold Gs.oH; repeat (first | rw [if_pos (by omega)] | rw [if_neg (by omega)])), (fun h1 h2 h3 h4 => WB h1 h2 h3 hB h4 hwo hlo na1 na2 na3), ag, ae, aO, dG, ah, hF⟩
 refine aF ?_
 refine az (cu _ _ _ _ _) (fun h13 => ?_) (fun h13 => ?_)
 refine aK ?_
 refine hJ1 _ _ ?_
 exact ⟨191, Gs.rJ, (by rfl), by kernel_rfl, (by show Gs.oH o.k = some _; unfold Gs.oH; repeat (first | rw [if_pos (by omega)] | rw [if_neg (by omega)])), (fun h1 h2 h3 h4 => acB h1 h2 h3 hB h4 hwo hlo na1 na2 na3), ag, ae, aO, dG, ah, hF⟩
 refine aF ?_
 rw [Gs.aki (o := o.m) (b := b) (by show Gs.oH o.k = none; unfold Gs.oH; repeat rw [if_neg (by omega)])]; exact ⟨_, rfl, rfl, ag, ae, aO, hF⟩
 replace ae := ae.ai U1
 replace dG := dG.ai U1
 replace ag := U1.af ag
 replace aO := U1.af aO
 replace hF := hF.go0 U1
 obtain ⟨m, f, g5, hok5, hfm, hcl, ag, ae, aO, dG, ah, hF⟩ := hI
 rw [g5]
 refine Z.b 6 ((Gs.oe o).toArray) ah ?_
 refine Qq hok5 (by rfl) (aN (hcl ag ae aO dG) (fun v15 tX D15 => ?_))
 have aJ := ae
 have ajN := hF.size
 obtain ⟨rfl, ag, ae, aO, bU⟩ := D15
 replace ah := bU.get ah (fun hs => by rcases hs with (hs | hs) | hs <;> first | (first | exact Own.aS aJ ah (by decide) _ hs rfl | (have := Own.ge aJ hs; omega)) | (exact absurd hs (Ne.symm kD)) | (exact absurd hs (Ne.symm C9)))
 replace hF := hF.go bU (fun i hi hs => by exact hs)
 clear aJ
 refine Z.f 0 ?_
 refine Z.l ah ?_
 refine az (cu _ _ _ _ _) (fun h16 => ?_) (fun h16 => ?_)
 refine bu (bu (bu (bu (rY (rY (rY (rY (bu (aU ?_)))))))))
 refine dw ?_
 refine Z.f 7 ?_
 refine Z.s aO (fun uY aO _ dh => ?_)
 replace ae := ae.aG dh (Own.aS ae (by assumption) (by decide))
 replace ag := dh.aj ag (by exact dP (by assumption) (by assumption) (by decide))
 replace hF := hF.go dh (fun i _ h => .inr h)
 rw [Gs.UU (b := b) hfm]; refine ⟨_, rfl, rfl, ag, ae, ?_, hF⟩; have hld := (show Gs.GM o.m = _ from Gs.PM (o := o.m) (.inl ⟨rfl, .inl (by assumption)⟩)); dsimp only; rw [hld]; exact aO
 refine bz ?_
 refine Z.f 0 ?_
 refine bz ?_
 refine Z.l ah ?_
 refine bz ?_
 refine az (cu _ _ _ _ _) (fun h19 => ?_) (fun h19 => ?_)
 refine bz (aX ?_)
 refine Z.f 5 ?_
 refine aX ?_
 refine Z.l ah ?_
 refine aX ?_
 refine au (gK (by kernel_rfl) _ _ _) ?_
 refine aX ?_
 refine au (gtr _ _ _ _) ?_
 refine bz (aU (aT ?_))
 refine dw ?_
 refine Z.f 7 ?_
 refine Z.s aO (fun wY aO _ dR => ?_)
 replace ae := ae.aG dR (Own.aS ae (by assumption) (by decide))
 replace ag := dR.aj ag (by exact dP (by assumption) (by assumption) (by decide))
 replace hF := hF.go dR (fun i _ h => .inr h)
 rw [Gs.UU (b := b) hfm]; refine ⟨_, rfl, rfl, ag, ae, ?_, hF⟩; have hld := (show Gs.GM o.m = _ from Gs.PM (o := o.m) (.inr (.inl ⟨by assumption, by assumption, rfl⟩))); dsimp only; rw [hld]; exact aO
 refine bz (aQ (aQ (aQ (aQ (bz (aT (aT ?_)))))))
 refine dw ?_
 refine Z.f 7 ?_
 refine Z.s aO (fun Hy aO _ gY => ?_)
 replace ae := ae.aG gY (Own.aS ae (by assumption) (by decide))
 replace ag := gY.aj ag (by exact dP (by assumption) (by assumption) (by decide))
 replace hF := hF.go gY (fun i _ h => .inr h)
 rw [Gs.UU (b := b) hfm]; refine ⟨_, rfl, rfl, ag, ae, ?_, hF⟩; have hld := (show Gs.GM o.m = _ from Gs.PM (o := o.m) (.inr (.inr ⟨by assumption, by assumption, rfl⟩))); dsimp only; rw [hld]; exact aO
end Go.Proofs.YtjdoakbadehicaaGreatDoor
end
section
namespace Gs
open Go Go.Sh
structure wz where
 rep : Int
 rs : Bool
 al : Bool
 er : Int
def re (x : wz) : List Value := [.int .u8 x.rep, .bool x.rs, .bool x.al, .int .i64 x.er]
def qi : wz := ⟨0, false, false, 0⟩
def xB (e : Int) : wz := ⟨0, false, false, e⟩
structure iV where
 r0 : Int
 c0 : Int
 r1 : Int
 c1 : Int
 wh : Int
 r : Int
 c : Int
 cs : List Cell
 cur : Int
def Sw (n : Nat) (s : iV) : Prop := (aZ s.r0 s.c0 ≠ 0 ∧ aZ s.r1 s.c1 ≠ 0) ∧ Pw s.r s.c n s.cs s.cur
def GR (r c : Int) : List Cell := List.replicate (aZ r c).toNat zc
def bT (s : iV) (wh : Int) : iV := if wh = 0 then { s with wh := 0, r := s.r0, c := s.c0, cs := GR s.r0 s.c0, cur := 0 } else { s with wh := 1, r := s.r1, c := s.c1, cs := GR s.r1 s.c1, cur := 0 }
def Ed (cs : List Cell) : List Cell := oz (pF cs (ji cs)) (bW (pF cs (ji cs)))
def O3 (c : sS) (e : Int) : wz := if e = 0 then ⟨0, decide (c.w / 2 % 2 = 1), decide (c.w / 4 % 2 = 1), 0⟩ else xB e
def Jp (s : iV) (i : Int) : Br := ⟨s.cs, s.cur, i, zc, false⟩
def qJ (s : iV) (c : sS) (i : Int) : iV × wz :=
 ({ s with cs := (lJ c.os (Jp s i)).1.cs, cur := (lJ c.os (Jp s i)).1.cur }, O3 c (if (lJ c.os (Jp s i)).2 = 0 then c.e else (lJ c.os (Jp s i)).2))
def iY (s : iV) (c : sS) (wh : Int) : iV × wz := qJ (bT s wh) c 0
def aoP (s : iV) : iV := { s with cs := qX s.cs (bW s.cs) }
def AO (s : iV) (w : Int) : iV := { s with cs := if w % 2 = 1 then qX s.cs (bW s.cs) else s.cs }
def abb (s : iV) : iV := { s with cs := Ed s.cs, cur := sU (Ed s.cs) }
def o7 (s : iV) (c : sS) : iV × wz :=
 if c.k = 241 then qJ (AO s c.w) c s.cur else if c.k = 245 then iY s c 0 else if c.k = 126 then iY s c 1 else
 if c.k = 111 then (abb s, ⟨0, true, false, 0⟩) else if c.k = 242 ∨ c.k = 246 ∨ c.k = 110 then (s, ⟨c.k, false, false, 0⟩) else (s, xB 30)
def fQ (s : iV) (f : sN) : iV × wz :=
 if f.id = 1 then (s, ⟨f.op, false, false, 0⟩) else if f.id = 3 then (bT s (if f.op = 0 then 0 else 1), qi) else ((o7 s f.c).1, { (o7 s f.c).2 with rep := 0 })
def mrg (o r : wz) : wz := ⟨if o.rep = 0 then r.rep else o.rep, o.rs || r.rs, o.al || r.al, o.er⟩
def lu (e : Int) : List sN → iV → wz → iV × wz
 | [], s, o => (s, if e = 0 then o else xB e)
 | f :: fs, s, o => if (fQ s f).2.er = 0 then lu e fs (fQ s f).1 (mrg o (fQ s f).2) else ((fQ s f).1, xB (fQ s f).2.er)
def Aw (s : iV) (c : qW) : iV × wz := if c.c.k = 243 then lu c.c.e c.fs s qi else o7 s c.c
def Fz (b : List Int) : qW × Int := gZ b.length b
def zq (s : iV) (b : List Int) : iV × wz := if (Fz b).2 = 0 then Aw s (Fz b).1 else (s, xB (Fz b).2)
section
variable {e : Int} {fs : List sN} {s : iV} {o : wz} {k : Nat} {f : sN} {x : iV × wz}
theorem WG (h : x = lu e (fs.drop k) s o) (hk : fs.length ≤ k) : x = (s, if e = 0 then o else xB e) := by rw [h, List.drop_eq_nil_of_le hk]; rfl
theorem WF (h : x = lu e (fs.drop k) s o) (hf : fs[k]? = some f) (he : ¬ (fQ s f).2.er = 0) : x = ((fQ s f).1, xB (fQ s f).2.er) := by
 obtain ⟨hl, rfl⟩ := List.getElem?_eq_some_iff.1 hf
 rw [h, List.drop_eq_getElem_cons hl, lu, if_neg he]
theorem yP (h : x = lu e (fs.drop k) s o) (hf : fs[k]? = some f) (he : (fQ s f).2.er = 0) : x = lu e (fs.drop (k + 1)) (fQ s f).1 (mrg o (fQ s f).2) := by
 obtain ⟨hl, rfl⟩ := List.getElem?_eq_some_iff.1 hf
 rw [h, List.drop_eq_getElem_cons hl, lu, if_pos he]
end
theorem Df (r c : Int) : (GR r c).length = (aZ r c).toNat := List.length_replicate ..
theorem amK (n : Nat) : jh (List.replicate n zc) := fun x hx => by rw [List.eq_of_mem_replicate hx]; exact AQ
theorem Pw.new {r c : Int} (h : aZ r c ≠ 0) : Pw r c (aZ r c).toNat (GR r c) 0 := by
 have h1 := zK r c
 exact ⟨(Df r c).symm, amK _, by omega, by omega, by omega, by omega⟩
theorem Pw.len {r c cur : Int} {n : Nat} {cs : List Cell} (h : Pw r c n cs cur) : Pw r c cs.length cs cur := h.1 ▸ h
theorem Sw.len {n : Nat} {s : iV} (h : Sw n s) : Sw s.cs.length s := ⟨h.1, h.2.len⟩
theorem Sw.renew {n : Nat} {s : iV} (h : Sw n s) (wh : Int) : Sw (bT s wh).cs.length (bT s wh) := by
 unfold bT
 split
 ·exact ⟨h.1, (Pw.new h.1.1).len⟩
 ·exact ⟨h.1, (Pw.new h.1.2).len⟩
theorem Bw.abd {r c : Int} {n : Nat} : ∀ {os : List iT} {b : Br}, Bw r c n b → (∀ o ∈ os, (0 ≤ o.b ∧ o.b ≤ 255) ∧ Bs o.ds) → Bw r c n (lJ os b).1
 | [], b, h, _ => h
 | o :: os, b, h, hw => by
  have h1 := hw o (List.mem_cons_self ..)
  have h2 := h.do h1.1 h1.2
  unfold lJ
  split
  ·exact Bw.abd h2 fun x hx => hw x (List.mem_cons_of_mem _ hx)
  ·exact h2
def sQ (os : List iT) : Prop := ∀ o ∈ os, (0 ≤ o.b ∧ o.b ≤ 255) ∧ Bs o.ds
theorem sQ.of {l : List iW} (h : Cb l) : sQ (wQ l) := fun o ho => by
 obtain ⟨x, hx, rfl⟩ := List.mem_map.1 ho
 exact ⟨(h x hx).2.1, (h x hx).2.2.1⟩
theorem Bw.of {s : iV} {n : Nat} (h : Sw n s) {i : Int} (hi : 0 ≤ i ∧ i < n) : Bw s.r s.c n (Jp s i) := ⟨h.2, hi, AQ⟩
theorem Sw.write {n : Nat} {s : iV} (h : Sw n s) {c : sS} (hw : sQ c.os) {i : Int} (hi : 0 ≤ i ∧ i < n) : Sw n (qJ s c i).1 := ⟨h.1, (Bw.abd (Bw.of h hi) hw).1⟩
theorem Sw.erase {n : Nat} {s : iV} (h : Sw n s) {c : sS} (hw : sQ c.os) (wh : Int) : Sw (bT s wh).cs.length (iY s c wh).1 := by
 have h1 := h.renew wh
 have h2 := h1.2.2.2.1
 have h3 : (bT s wh).cur = 0 := by unfold bT; split <;> rfl
 exact h1.write hw ⟨by omega, by omega⟩
theorem Sw.unm {n : Nat} {s : iV} (h : Sw n s) : Sw n (aoP s) := ⟨h.1, h.2.unm _⟩
theorem Sw.XT {n : Nat} {s : iV} (h : Sw n s) (w : Int) : Sw n (AO s w) := by unfold AO; split; exact h.unm; exact h
theorem QL (cs : List Cell) : (Ed cs).length = cs.length := by
 unfold Ed
 rw [← uS]
 unfold pF
 have : ∀ (l : List Int) (c : List Cell), (l.foldl (fun cs i => if jB cs i = true then gV cs i zc else cs) c).length = c.length := by
  intro l
  induction l with
  | nil => exact fun _ => rfl
  | cons i l ih =>
   intro c
   rw [List.foldl_cons, ih]
   split
   ·exact lD ..
   ·rfl
 exact this _ _
theorem aiK {cs : List Cell} (h : jh cs) : jh (Ed cs) := Bo (Fh h _).1 _
theorem Sw.opn {n : Nat} {s : iV} (h : Sw n s) : Sw n (abb s) := by
 have hn := h.2.1
 have hp := h.2.2.2.2.1
 have hl := QL s.cs
 have hh := JR (cs := Ed s.cs) (by omega)
 exact ⟨h.1, ⟨hn.trans hl.symm, aiK h.2.2.1, by show 0 ≤ sU _ ∧ sU _ < _; omega, h.2.2.2.2⟩⟩
theorem Sw.Yb {n : Nat} {s : iV} (h : Sw n s) {c : sS} (hw : sQ c.os) : Sw (o7 s c).1.cs.length (o7 s c).1 := by
 unfold o7
 split
 ·exact ((h.XT _).write hw (h.2.2.2.1)).len
 split
 ·exact (h.erase hw 0).len
 split
 ·exact (h.erase hw 1).len
 split
 ·exact h.opn.len
 split <;> exact h.len
theorem Sw.field {n : Nat} {s : iV} (h : Sw n s) {f : sN} (hw : sQ f.c.os) : Sw (fQ s f).1.cs.length (fQ s f).1 := by
 unfold fQ
 split
 ·exact h.len
 split
 ·exact h.renew _
 ·exact h.Yb hw
theorem Sw.fields {e : Int} : ∀ {fs : List sN} {n : Nat} {s : iV} {o : wz}, Sw n s → (∀ f ∈ fs, sQ f.c.os) → Sw (lu e fs s o).1.cs.length (lu e fs s o).1
 | [], n, s, o, h, _ => h.len
 | f :: fs, n, s, o, h, hw => by
  have h1 := h.field (hw f (List.mem_cons_self ..))
  unfold lu
  split
  ·exact Sw.fields h1 fun x hx => hw x (List.mem_cons_of_mem _ hx)
  ·exact h1
theorem abG {c : sS} {e : Int} (h : e = 0) : O3 c e = ⟨0, decide (c.w / 2 % 2 = 1), decide (c.w / 4 % 2 = 1), 0⟩ := by unfold O3; rw [if_pos h]
theorem akl {c : sS} {e : Int} (h : ¬ e = 0) : O3 c e = xB e := by unfold O3; rw [if_neg h]
theorem akj {x : pJ} {S : Nat → Prop} (h : [(⟨0, 0, x⟩ : Fd)] = [] ∨ ∀ k, lg [⟨0, 0, x⟩] k → S k) : rows oe x.os = [] ∨ ∀ k, fC x.oA k → S k := by
 by_cases hx : x.os = []
 ·left; rw [hx]; rfl
 ·right
  intro k hk
  rcases h with h | h
  ·cases h
  ·exact h k ⟨_, List.mem_cons_self .., hx, .inl hk⟩
theorem akk {x : pJ} {S : Nat → Prop} (h : [(⟨0, 0, x⟩ : Fd)] = [] ∨ ∀ k, lg [⟨0, 0, x⟩] k → S k) : x.os = [] ∨ ∀ k, jI x.os k → S k := by
 by_cases hx : x.os = []
 ·exact .inl hx
 ·right
  intro k hk
  rcases h with h | h
  ·cases h
  ·exact h k ⟨_, List.mem_cons_self .., hx, .inr hk⟩
theorem aaK {x y : Fd} {S : Nat → Prop} (e : x.c = y.c) (h : [x] = [] ∨ ∀ k, lg [x] k → S k) : [y] = [] ∨ ∀ k, lg [y] k → S k := .inr fun k hk => by
 obtain ⟨z, hz, hb⟩ := hk
 cases List.mem_singleton.1 hz
 rcases h with h | h
 ·cases h
 ·exact h k ⟨x, List.mem_cons_self .., e ▸ hb⟩
theorem Vd {l : List Fd} {i : Nat} {x : Fd} {S : Nat → Prop} (h : l = [] ∨ ∀ k, lg l k → S k) (hx : l[i]? = some x) : [x] = [] ∨ ∀ k, lg [x] k → S k := .inr fun k hk => by
 rcases h with rfl | h
 ·simp at hx
 ·exact h k (aho hx hk)
theorem Fv {l : List Fd} {k : Nat} {x : Fd} (h : l[k]? = some x) : (qR l)[k]? = some x.m := by unfold qR; rw [List.getElem?_map, h]; rfl
section
variable {s : iV} {c : sS} {f : sN}
theorem afx (h : c.k = 241) : o7 s c = qJ (AO s c.w) c s.cur := by unfold o7; rw [if_pos h]
theorem amn (h : c.k = 245) : o7 s c = iY s c 0 := by unfold o7; rw [if_neg (by omega), if_pos h]
theorem amo (h : c.k = 126) : o7 s c = iY s c 1 := by unfold o7; rw [if_neg (by omega), if_neg (by omega), if_pos h]
theorem amq (h : c.k = 111) : o7 s c = (abb s, ⟨0, true, false, 0⟩) := by unfold o7; rw [if_neg (by omega), if_neg (by omega), if_neg (by omega), if_pos h]
theorem amr (h : c.k = 242 ∨ c.k = 246 ∨ c.k = 110) : o7 s c = (s, ⟨c.k, false, false, 0⟩) := by unfold o7; rw [if_neg (by omega), if_neg (by omega), if_neg (by omega), if_neg (by omega), if_pos h]
theorem ams (h : ¬ (c.k = 241 ∨ c.k = 245 ∨ c.k = 126 ∨ c.k = 111 ∨ c.k = 242 ∨ c.k = 246 ∨ c.k = 110)) : o7 s c = (s, xB 30) := by unfold o7; rw [if_neg (by omega), if_neg (by omega), if_neg (by omega), if_neg (by omega), if_neg (by omega)]
theorem ah4 (h : f.id = 1) : fQ s f = (s, ⟨f.op, false, false, 0⟩) := by unfold fQ; rw [if_pos h]
theorem ah5 (h : f.id = 3) : fQ s f = (bT s (if f.op = 0 then 0 else 1), qi) := by unfold fQ; rw [if_neg (by omega), if_pos h]
theorem ah6 (h1 : ¬ f.id = 1) (h : ¬ f.id = 3) : fQ s f = ((o7 s f.c).1, { (o7 s f.c).2 with rep := 0 }) := by unfold fQ; rw [if_neg h1, if_neg h]
end
theorem akp {xs : List Value} {A : Option Addr} {b b' B : Nat} (h : xs = [] ∨ ∀ k, fC A k → k ≠ b) (lt : Ie A xs B) (hb : b' = b ∨ B ≤ b') : xs = [] ∨ ∀ k, fC A k → k ≠ b' := by
 rcases hb with rfl | hb
 ·exact h
 ·exact lt.imp_right fun h k hk e => by have := h k hk; omega
theorem amu {l : List Fd} {w : World} {b b' : Nat} (h : l = [] ∨ ∀ k, lg l k → k ≠ b) (hc : iq w l) (hb : b' = b ∨ w.heap.size ≤ b') : l = [] ∨ ∀ k, lg l k → k ≠ b' := by
 rcases hb with rfl | hb
 ·exact h
 ·exact hc.lt.imp_right fun h k hk e => by have := h k hk; omega
def XU (l : List Fd) : Prop := ∀ x ∈ l, (Fj x.c.os ∧ x.c.os.length ≤ 100000) ∧ (x.id = 1 ∨ x.id = 3 ∨ tq x.c.k)
theorem XU.get {l : List Fd} (h : XU l) {k : Nat} {x : Fd} (hx : l[k]? = some x) : (Fj x.c.os ∧ x.c.os.length ≤ 100000) ∧ (x.id = 1 ∨ x.id = 3 ∨ tq x.c.k) := h x (List.mem_of_getElem? hx)
section
variable {o r : wz}
theorem akq (h : o.rs = true) (k : o.al = true) : mrg o r = ⟨if o.rep = 0 then r.rep else o.rep, true, true, o.er⟩ := by unfold mrg; rw [h, k]; rfl
theorem akr (h : o.rs = true) (k : o.al = false) : mrg o r = ⟨if o.rep = 0 then r.rep else o.rep, true, r.al, o.er⟩ := by unfold mrg; rw [h, k]; rfl
theorem aks (h : o.rs = false) (k : o.al = true) : mrg o r = ⟨if o.rep = 0 then r.rep else o.rep, r.rs, true, o.er⟩ := by unfold mrg; rw [h, k]; rfl
theorem akt (h : o.rs = false) (k : o.al = false) : mrg o r = ⟨if o.rep = 0 then r.rep else o.rep, r.rs, r.al, o.er⟩ := by unfold mrg; rw [h, k]; rfl
end
end Gs
namespace Gs
open Go Go.Sh
def Bh (m : Nat) (os : List iT) : Prop := os.length ≤ m ∧ ∀ o ∈ os, o.ds.length ≤ m ∧ o.ps.length ≤ m
theorem Bh.mono {m k : Nat} {os : List iT} (h : Bh m os) (hk : m ≤ k) : Bh k os := ⟨by have := h.1; omega, fun o ho => by have := h.2 o ho; omega⟩
theorem Bh.nil (m : Nat) : Bh m [] := ⟨Nat.zero_le _, fun o h => by cases h⟩
def Yc (m : Nat) (f : sN) : Prop := Bh m f.c.os ∧ (f.id = 1 ∨ f.id = 3 ∨ tq f.c.k)
def CmS (m : Nat) (c : qW) : Prop := Bh m c.c.os ∧ ∀ f ∈ c.fs, Yc m f
theorem aiL {P : List Int → qW × Int} (hP : ∀ b, CmS b.length (P b).1) {b : List Int} {f : sN} (h : Es P b = some f) : Yc b.length f := by
 unfold Es at h
 split at h
 ·rename_i x r
  split at h
  ·unfold DD at h
   split at h
   ·split at h
    ·cases h; exact ⟨Bh.nil _, .inl rfl⟩
    ·cases h
   ·cases h
  split at h
  ·unfold zZ at h
   split at h
   ·split at h
    ·cases h; exact ⟨Bh.nil _, .inr (.inl rfl)⟩
    ·cases h
   ·cases h
  split at h
  ·unfold writeM' at h
   split at h
   ·rename_i y z t
    split at h
    ·rename_i hc
     cases h
     exact ⟨(hP (z :: t)).1.mono (by simp only [List.length_cons]; omega), .inr (.inr hc.2.2)⟩
    ·cases h
   ·cases h
  ·cases h
 ·cases h
theorem Yc.mono {m k : Nat} {f : sN} (h : Yc m f) (hk : m ≤ k) : Yc k f := ⟨h.1.mono hk, h.2⟩
theorem OC {P : List Int → qW × Int} (hP : ∀ b, CmS b.length (P b).1) : ∀ (m : Nat) (b : List Int), b.length ≤ m → ∀ f ∈ (jG P b).1, Yc b.length f
 | 0, b, hb, f, hf => by
  obtain rfl := List.length_eq_zero_iff.1 (Nat.le_zero.1 hb)
  rw [su] at hf; cases hf
 | m + 1, b, hb, f, hf => by
  by_cases h0 : b = []
  ·subst h0; rw [su] at hf; cases hf
  ·rw [jG, if_neg h0] at hf
   split at hf
   ·cases hf
   ·rename_i x r hc
    have hl := vH hc
    split at hf
    ·cases hf
    ·rename_i g hg
     rcases List.mem_cons.1 hf with rfl | hf
     ·exact (aiL hP hg).mono (by omega)
     ·exact (OC hP m r (by omega) f hf).mono (by omega)
theorem Ri : ∀ (N : Nat) (b : List Int), CmS b.length (gZ N b).1
 | 0, b => ⟨Bh.nil _, fun f h => by cases h⟩
 | N + 1, b => by
  unfold gZ
  split
  ·exact ⟨Bh.nil _, fun f h => by cases h⟩
  ·rename_i x r
   split
   ·exact ⟨Bh.nil _, fun f h => by cases h⟩
   ·split
    ·split
     ·exact ⟨Bh.nil _, fun f h => by cases h⟩
     ·rename_i w r'
      have h1 := QT r'.length r' (Nat.le_refl _)
      exact ⟨⟨by show (iI r').1.length ≤ _; simp only [List.length_cons]; omega, fun o ho => by have := h1.2 o ho; simp only [List.length_cons]; omega⟩, fun f h => by cases h⟩
    ·split
     ·refine ⟨Bh.nil _, fun f hf => ?_⟩
      exact (OC (Ri N) r.length r (Nat.le_refl _) f hf).mono (by simp only [List.length_cons]; omega)
     ·exact ⟨Bh.nil _, fun f h => by cases h⟩
theorem adc {os : List iW} {m : Nat} (h : Bh m (wQ os)) (hm : m ≤ 100000) : Fj os ∧ os.length ≤ 100000 := by
 have h1 := h.1
 rw [XO] at h1
 refine ⟨fun x hx => ?_, by omega⟩
 have h2 : x.ds.length ≤ m ∧ x.ps.length ≤ m := h.2 x.m (List.mem_map.2 ⟨x, hx, rfl⟩)
 exact ⟨by omega, by omega⟩
theorem aez {N : Nat} {b : List Int} {x : pJ} {fs : List Fd} {er : Int} (h : gZ N b = (⟨x.m, qR fs⟩, er)) (hb : b.length ≤ 100000) : (Fj x.os ∧ x.os.length ≤ 100000) ∧ XU fs := by
 have hk := Ri N b
 rw [h] at hk
 refine ⟨adc hk.1 hb, fun f hf => ?_⟩
 have h2 := hk.2 f.m (List.mem_map.2 ⟨f, hf, rfl⟩)
 exact ⟨adc h2.1 hb, h2.2⟩
theorem Ld {P : List Int → qW × Int} : ∀ {n : Nat} {b : List Int}, b.length ≤ n → (jG P b).1.length ≤ b.length
 | 0, b, hb => by
  obtain rfl := List.length_eq_zero_iff.1 (Nat.le_zero.1 hb)
  rw [su]; exact Nat.le_refl _
 | n + 1, b, hb => by
  by_cases h0 : b = []
  ·subst h0; rw [su]; exact Nat.le_refl _
  ·rw [jG, if_neg h0]
   split
   ·exact Nat.zero_le _
   ·rename_i x r hc
    have hl := vH hc
    split
    ·exact Nat.zero_le _
    ·have := Ld (P := P) (n := n) (b := r) (by omega)
     simp only [List.length_cons]; omega
theorem ae7 {N : Nat} {b : List Int} : (gZ N b).1.fs.length ≤ b.length := by
 cases N with
 | zero => exact Nat.zero_le _
 | succ N =>
  unfold gZ
  split
  ·exact Nat.zero_le _
  ·rename_i x r
   split
   ·exact Nat.zero_le _
   ·split
    ·split <;> exact Nat.zero_le _
    ·split
     ·have := Ld (P := gZ N) (n := r.length) (b := r) (Nat.le_refl _)
      show (jG (gZ N) r).1.length ≤ _
      simp only [List.length_cons]; omega
     ·exact Nat.zero_le _
theorem aeA {N : Nat} {b : List Int} {x : pJ} {fs : List Fd} {er : Int} (h : gZ N b = (⟨x.m, qR fs⟩, er)) (hb : b.length ≤ 100000) : fs.length ≤ 100000 := by
 have := ae7 (N := N) (b := b)
 rw [h] at this
 have h2 : (qR fs).length ≤ b.length := this
 rw [Xg] at h2; omega
theorem amv {s : iV} {c : qW} (h : c.c.k = 243) : Aw s c = lu c.c.e c.fs s qi := by unfold Aw; rw [if_pos h]
theorem amw {s : iV} {c : qW} (h : ¬ c.c.k = 243) : Aw s c = o7 s c.c := by unfold Aw; rw [if_neg h]
theorem aku {s : iV} {b : List Int} {x : qW} {e : Int} (h : gZ b.length b = (x, e)) (he : ¬ e = 0) : zq s b = (s, xB e) := by unfold zq Fz; rw [h]; dsimp only; rw [if_neg he]
theorem TB {s : iV} {b : List Int} {x : qW} {e : Int} (h : gZ b.length b = (x, e)) (he : e = 0) : zq s b = Aw s x := by unfold zq Fz; rw [h]; dsimp only; rw [if_pos he]
theorem Sw.Aw {n : Nat} {s : iV} (h : Sw n s) {x : pJ} {fs : List Fd} (hx : Bf x) (hf : BU fs) : Sw (Gs.Aw s ⟨x.m, qR fs⟩).1.cs.length (Gs.Aw s ⟨x.m, qR fs⟩).1 := by
 unfold Gs.Aw
 split
 ·refine h.fields fun f hm => ?_
  obtain ⟨y, hy, rfl⟩ := List.mem_map.1 hm
  exact sQ.of (hf y hy).2.2.2.2
 ·exact h.Yb (sQ.of hx.2.2)
end Gs
end
section
namespace Go.Proofs.YtjdoakbadehicaaGreatDoor
open Go Go.Sh
set_option maxRecDepth 100000
theorem Po {r c cur : Int} {A : Option Addr} {n cp bp B0 : Nat} {cs : List Gs.Cell} {w : World} (ag : Z.h w bp #[Z.i r, Z.i c, .slice A n cp, Z.i cur] 91) (ae : Own B0 w 37 5 (.slice A n cp) (rows Gs.cv cs)) (hn : n = cs.length) (hN : Gs.aZ r c = n) (hb : n ≤ 4096) (hcw : Gs.jh cs)  :
    oX 107 #[Z.p bp] w fun e w' => ∃ v, e = .returned v ∧ v = Z.i (Gs.CU cs (Gs.bW cs).length : Nat) ∧ Own B0 w' 37 5 (.slice A n cp) (rows Gs.cv (Gs.qX cs (Gs.bW cs))) ∧ aA (aH (.slice A n cp)) w w' := by
 refine ZF.calls ?_
 unfold ZF
 subst hn
 have hsl := Gs.uG cs
 have hF : aA (aH (.slice A cs.length cp)) w w := Fr.refl _ _ _
 refine Z.x _ (fun b1 w1 e1 ah _ U1 => ?_)
 have ik := ae.apart e1
 refine Z.n (#[Z.i 0]) (fun b2 w2 e2 ax _ U2 => ?_)
 replace ag := U1.af ag
 have eY : bp ≠ b2 := by have := ak ag; omega
 replace ae := ae.ai U1
 have dH := ae.apart e2
 have lS : b1 ≠ b2 := by have := ak ah; omega
 replace hF := hF.go0 U1
 have eU : w.heap.size ≤ b2 := by have := hF.size; omega
 refine Z.s ax (fun w3 ax _ U3 => ?_)
 refine bP (fun g w' => ∃ (D2 : Nat), (g 1000000 = mkV D2 undef) ∧ (w.heap.size ≤ D2) ∧ (w'.heap[D2]? = some (.deferred (some []))) ∧ (Z.h w' b2 #[Z.i (Gs.CU cs (Gs.bW cs).length : Nat)] 3) ∧ (Own B0 w' 37 5 (.slice A cs.length cp) (rows Gs.cv (Gs.qX cs (Gs.bW cs)))) ∧ (aA (aH (.slice A cs.length cp)) w w')) (fun J1 hJ1 => ?_) (fun gJ1 jK hI => ?_)
 replace ah := U3.aj (U2.af ah) lS
 refine Z.l ah ?_
 replace ae := (ae.ai U2).aG U3 dH
 replace ag := U3.aj (U2.af ag) eY
 refine aN (xq ag ae rfl) (fun v4 w4 D4 => ?_)
 obtain ⟨b1_6, rfl, g1_6, mX, U4⟩ := D4
 have RN : ∀ k, aH _ k → k ≠ b1_6 := fun k hk => by have := (Own.ge ae hk).2; omega
 have aal : b2 ≠ b1_6 := by have := ak ax; omega
 refine um (by kernel_rfl) (fun w5 l2 D2 Rdy2 Bsy2 Dn2 y2 eD el bg bD lp1 lp2 lp3 sz5 U5 hY => ?_)
 have lp2_2 := lp2
 replace ag := U4.af ag
 have iF : bp ≠ l2 := by have := ak ag; omega
 replace ae := ae.ai U4
 have sG : ∀ k, aH _ k → k ≠ D2 := fun k hk => by have := (Own.ge ae hk).2; omega
 have eQ : ∀ k, aH _ k → k ≠ l2 := fun k hk => by have := (Own.ge ae hk).2; omega
 replace ah := U4.af ah
 have iK : b1 ≠ l2 := by have := ak ah; omega
 replace ax := U4.af ax
 have uq : b2 ≠ D2 := by have := ak ax; omega
 have gJ : b2 ≠ l2 := by have := ak ax; omega
 have BA : b1_6 ≠ l2 := by have := ak mX; omega
 replace hF := ((hF.go0 U2).go1 U3 eU).go0 U4
 have nN : w.heap.size ≤ D2 := by have := hF.size; omega
 have jJ : w.heap.size ≤ l2 := by have := hF.size; omega
 have fD : D2 ≠ l2 := by omega
 replace ae := ae.ai U5
 replace ag := U5.af ag
 replace ah := U5.af ah
 replace ax := U5.af ax
 replace mX := U5.af mX
 replace hF := hF.go0 U5
 refine Calls.mono (uF (b1 := b1_6) (csF := (fun k => Gs.qX cs ((Gs.bW cs).take k))) (J := (fun (k : Nat) (w' : World) => (Z.h w' bp #[Z.i r, Z.i c, .slice A cs.length cp, Z.i cur] 91) ∧ (Own B0 w' 37 5 (.slice A cs.length cp) (rows Gs.cv (Gs.qX cs ((Gs.bW cs).take k)))) ∧ (Z.h w' b2 #[Z.i (Gs.CU cs k : Nat)] 3) ∧ (Z.h w' b1_6 #[Z.p bp] 33) ∧ (Z.h w' b1 #[Z.p bp] 33) ∧ (w'.heap[D2]? = some (.deferred (some []))) ∧ (w'.heap[l2]? = some Rdy2) ∧ (aA (aH (.slice A cs.length cp)) w w'))) (X := (fun _ => False)) (fun _ w' hJ => by obtain ⟨ag, ae, ax, mX, ah, bg, bD, hF⟩ := hJ; exact ⟨mX, ag, ae⟩) (fun _ w' w'' hJ U' => by obtain ⟨ag, ae, ax, mX, ah, bg, bD, hF⟩ := hJ; exact ⟨U'.af ag, ae.ai U', U'.af ax, U'.af mX, U'.af ah, U'.af bg, U'.af bD, hF.go0 U'⟩) (fun _ _ h _ => h.elim) (fun _ => Gs.EY cs _) (fun _ => Gs.Sv hcw _) (fun _ _ => by rw [Gs.Ut, Gs.Ut]) hN hb ?_ ?_) ?_
 intro k qI xk hx hI
 obtain ⟨ag, ae, ax, mX, ah, bg, bD, hF⟩ := hI
 have hx : (Gs.bW cs)[k]? = some xk := hx
 have hk := (List.getElem?_eq_some_iff.1 hx).1
 have hxm := Gs.qm.1 (List.mem_of_getElem? hx)
 have hxn := hxm.1
 have hle := Gs.ahG cs k
 refine hY [.agg (Gs.fv (Gs.kP (Gs.qX cs ((Gs.bW cs).take k)) xk)).toArray] _ _ rfl bD ?_
 simp only [List.getD_cons_zero, List.getD_cons_succ]
 refine Z.n ((Gs.fv Gs.zf).toArray) (fun b6 w6 e6 oq _ U6 => ?_)
 have vS : bp ≠ b6 := by have := ak ag; omega
 have pg := ae.apart e6
 have CV : b2 ≠ b6 := by have := ak ax; omega
 have NJ : b1_6 ≠ b6 := by have := ak mX; omega
 have Gu : b1 ≠ b6 := by have := ak ah; omega
 have Uu : D2 ≠ b6 := by have := ak bg; omega
 have Uw : l2 ≠ b6 := by have := ak bD; omega
 have xG : w.heap.size ≤ b6 := by have := hF.size; omega
 refine Z.t 3 ((Gs.fv (Gs.kP (Gs.qX cs ((Gs.bW cs).take k)) xk)).toArray) (by (simp [Value.cells, Value.oneCell', Gs.cv, Gs.fv]; done)) oq (fun w7 oq _ U7 => ?_)
 replace bD := U7.aj (U6.af bD) Uw
 refine xn bD (fun w8 bD _ U8 => ?_)
 refine Z.f 2 ?_
 replace oq := U8.aj oq (Ne.symm Uw)
 refine Z.l oq ?_
 refine dU (DR (Gs.Ud (Gs.Sv hcw _) xk)) (fun w9 U9 h9 => ?_) (fun w9 U9 h9 => ?_)
 simp only [Z.d, Z.c] at h9
 refine aK ?_
 replace ax := U9.af (U8.aj (U7.aj (U6.af ax) CV) gJ)
 refine Z.l ax ?_
 refine au (dL _ (by omega)) ?_
 refine Z.s ax (fun w10 ax _ aW => ?_)
 replace ah := aW.aj (U9.af (U8.aj (U7.aj (U6.af ah) Gu) iK)) lS
 refine Z.l ah ?_
 refine Z.f 0 ?_
 replace oq := aW.aj (U9.af oq) (Ne.symm CV)
 refine Z.l oq ?_
 replace ae := ((((ae.ai U6).aG U7 pg).aG U8 eQ).ai U9).aG aW dH
 replace ag := aW.aj (U9.af (U8.aj (U7.aj (U6.af ag) vS) iF)) eY
 refine aN (LK ag ae (Gs.EY cs _) hN hb (Gs.Sv hcw _) (i := (xk : Int)) ⟨by omega, by rw [← Gs.EY]; omega⟩) (fun v11 nT D11 => ?_)
 obtain ⟨N11, bJ⟩ := D11
 have aJ := ae
 replace ag := bJ.get ag (fun h => Own.aS aJ ag (by decide) _ h rfl)
 replace ae := N11
 replace ax := bJ.get ax (fun h => dH _ h rfl)
 replace mX := aW.aj (U9.af (U8.aj (U7.aj (U6.af mX) NJ) BA)) (Ne.symm aal)
 replace mX := bJ.get mX (fun h => RN _ h rfl)
 replace ah := bJ.get ah (fun h => ik _ h rfl)
 replace bg := aW.aj (U9.af (U8.aj (U7.aj (U6.af bg) Uu) fD)) (Ne.symm uq)
 replace bg := bJ.get bg (fun h => sG _ h rfl)
 replace bD := aW.aj (U9.af bD) (Ne.symm gJ)
 replace bD := bJ.get bD (fun h => eQ _ h rfl)
 replace hF := ((((hF.go0 U6).go1 U7 xG).go1 U8 jJ).go0 U9).go1 aW eU
 replace hF := hF.go bJ (fun i h hs => by exact hs)
 clear aJ
 refine sD bD (fun w12 bD _ df => ?_)
 replace ae := ae.aG df eQ
 replace ag := df.aj ag iF
 replace ax := df.aj ax gJ
 replace mX := df.aj mX BA
 replace ah := df.aj ah iK
 replace bg := df.aj bg fD
 replace hF := hF.go1 df jJ
 exact ⟨ag, (by rw [Gs.Ur hx]; (rw [if_pos ((Gs.JV hx).1 (by assumption))]; exact ae)), (by (rw [Gs.ajI hx ((Gs.JV hx).1 (by assumption))]; exact ax)), mX, ah, bg, bD, hF⟩
 simp only [Z.d, Z.c] at h9
 refine aF ?_
 replace bD := U9.af bD
 refine sD bD (fun uX bD _ dE => ?_)
 replace ae := ((((ae.ai U6).aG U7 pg).aG U8 eQ).ai U9).aG dE eQ
 replace ag := dE.aj (U9.af (U8.aj (U7.aj (U6.af ag) vS) iF)) iF
 replace ax := dE.aj (U9.af (U8.aj (U7.aj (U6.af ax) CV) gJ)) gJ
 replace mX := dE.aj (U9.af (U8.aj (U7.aj (U6.af mX) NJ) BA)) BA
 replace ah := dE.aj (U9.af (U8.aj (U7.aj (U6.af ah) Gu) iK)) iK
 replace bg := dE.aj (U9.af (U8.aj (U7.aj (U6.af bg) Uu) fD)) fD
 replace hF := ((((hF.go0 U6).go1 U7 xG).go1 U8 jJ).go0 U9).go1 dE jJ
 exact ⟨ag, (by rw [Gs.Ur hx]; (rw [if_neg (fun ho => absurd ((Gs.JV hx).2 ho) (by assumption))]; exact ae)), (by (rw [Gs.ajJ hx (fun ho => absurd ((Gs.JV hx).2 ho) (by assumption))]; exact ax)), mX, ah, bg, bD, hF⟩
 exact ⟨ag, ae, ax, mX, ah, bg, bD, hF⟩
 rintro e wE2 ⟨hv, hI | hI⟩
 obtain ⟨ag, ae, ax, mX, ah, bg, bD, hF⟩ := hI
 refine ⟨hv, .inl ⟨bD, fun sJ _ dm => ?_⟩⟩
 refine hJ1 _ _ ?_
 replace ae := ae.aG dm eQ
 replace ax := dm.aj ax gJ
 replace bg := dm.aj bg fD
 replace hF := hF.go1 dm jJ
 exact ⟨_, (by rfl), nN, bg, ax, (by have h5 := ae; rw [show ((Gs.bW cs).take (Gs.bW (Gs.qX cs ((Gs.bW cs).take 0))).length) = Gs.bW cs from List.take_of_length_le (Nat.le_refl _)] at h5; exact h5), hF⟩
 exact hI.elim
 replace ae := (ae.ai U2).aG U3 dH
 replace hF := (hF.go0 U2).go1 U3 eU
 obtain ⟨D2, g1000000, nN, bg, ax, ae, hF⟩ := hI
 rw [g1000000]
 refine Z.l ax ?_
 refine leave1 bg (fun w16 _ bQ => ?_)
 replace ae := ae.aG bQ (Own.lq ae (by assumption))
 replace hF := hF.go1 bQ nN
 exact ⟨_, rfl, rfl, ae, hF⟩
theorem RQ {r c cur : Int} {A : Option Addr} {n cp bp B0 : Nat} {cs : List Gs.Cell} {w : World} (ag : Z.h w bp #[Z.i r, Z.i c, .slice A n cp, Z.i cur] 91) (ae : Own B0 w 37 5 (.slice A n cp) (rows Gs.cv cs)) (hW : Gs.Pw r c n cs cur) {os : List Gs.iW} {oA : Option Addr} {on oc : Nat} (bH : Rd w oA (rows Gs.oe os)) (hon : on = os.length) (hol : on ≤ 100000) (dG : Gs.ku w os) (how : Gs.Cb os) (hln : Gs.Fj os) (nar1 : rows Gs.oe os = [] ∨ ∀ k, fC oA k → ¬ aH (.slice A n cp) k) (nar2 : rows Gs.oe os = [] ∨ ∀ k, fC oA k → k ≠ bp) (na1 : os = [] ∨ ∀ k, Gs.jI os k → ¬ aH (.slice A n cp) k) (na2 : os = [] ∨ ∀ k, Gs.jI os k → k ≠ bp) {i : Int} (hi : 0 ≤ i ∧ i < n) :
    oX 150 #[Z.p bp, .slice oA on oc, Z.i i] w fun e w' => ∃ v, e = .returned v ∧ ∃ (at' dn : Int), v = .tuple #[Z.i at', Z.i dn, Z.i (Gs.lJ (Gs.wQ os) (⟨cs, cur, i, Gs.zc, false⟩ : Gs.Br)).2] ∧ Z.h w' bp #[Z.i r, Z.i c, .slice A n cp, Z.i (Gs.lJ (Gs.wQ os) (⟨cs, cur, i, Gs.zc, false⟩ : Gs.Br)).1.cur] 91 ∧ Own B0 w' 37 5 (.slice A n cp) (rows Gs.cv (Gs.lJ (Gs.wQ os) (⟨cs, cur, i, Gs.zc, false⟩ : Gs.Br)).1.cs) ∧ aA (fun k => aH (.slice A n cp) k ∨ k = bp) w w' := by
 refine ZJ.calls ?_
 unfold ZJ
 obtain ⟨hn, hcw, hcu, hp, hN, hb⟩ := id hW; have hrc := hW.rc
 subst hon
 have hos := Gs.XO os
 have wJ := ak ag
 have l7 := Own.lt ae
 have Nk := bH.lt
 have ake := dG.lt
 have hF : aA (fun k => aH (.slice A n cp) k ∨ k = bp) w w := Fr.refl _ _ _
 refine jq (lss _ _ _ _) (by omega) ?_
 refine bz (bz (bz ?_))
 refine aB (fK ag ae hn) (fun w1 U1 => ?_)
 refine bz ?_
 refine jq (geq _ _ _ _) (by omega) ?_
 refine aT (aF ?_)
 refine au (bG (l := [(0, 1), (1, 1), (2, 5), (7, 1)]) (z := #[.pointer none, Z.i 0, Z.u 0, .bool false, .bool false, Z.u 0, Z.u 0, .bool false]) (cs := [Z.p bp, Z.i i, Z.u 0, .bool false, .bool false, Z.u 0, Z.u 0, .bool false]) (by kernel_rfl) (by rfl)) ?_
 refine Z.x (#[Z.p bp, Z.i i, Z.u 0, .bool false, .bool false, Z.u 0, Z.u 0, .bool false]) (fun b3 w3 e3 bF _ U3 => ?_)
 replace ag := U1.af ag
 have kV : bp ≠ b3 := by have := ak ag; omega
 replace ae := ae.ai U1
 have iH := ae.apart e3
 replace bH := bH.ai U1
 have acC := bH.apart e3
 replace dG := dG.ai U1
 have yt := dG.apart e3
 replace hF := hF.go0 U1
 have jD : w.heap.size ≤ b3 := by have := hF.size; omega
 refine bP (fun g w' => ∃ (b : Gs.Br), ((Gs.lJ (Gs.wQ os) (⟨cs, cur, i, Gs.zc, false⟩ : Gs.Br)) = (b, 0)) ∧ (Z.h w' bp #[Z.i r, Z.i c, .slice A n cp, Z.i b.cur] 91) ∧ (Own B0 w' 37 5 (.slice A n cp) (rows Gs.cv b.cs)) ∧ (Z.h w' b3 #[Z.p bp, Z.i b.at', Z.u b.lk.b, .bool b.lk.ge, .bool b.lk.st, Z.u b.lk.l, Z.u b.lk.c, .bool b.ld] 229) ∧ (Rd w' oA (rows Gs.oe os)) ∧ (Gs.ku w' os) ∧ (aA (fun k => aH (.slice A n cp) k ∨ k = bp) w w')) (fun J1 hJ1 => ?_) (fun gJ1 jK hI => ?_)
 refine au (gK (by kernel_rfl) _ _ _) ?_
 refine eF (fun g w' => ∃ (k : Nat) (b : Gs.Br), (g 27 = Z.i (k : Int)) ∧ (k ≤ os.length) ∧ ((Gs.lJ (Gs.wQ os) (⟨cs, cur, i, Gs.zc, false⟩ : Gs.Br)) = Gs.lJ ((Gs.wQ os).drop k) b) ∧ (Gs.Bw r c n b) ∧ (Z.h w' bp #[Z.i r, Z.i c, .slice A n cp, Z.i b.cur] 91) ∧ (Own B0 w' 37 5 (.slice A n cp) (rows Gs.cv b.cs)) ∧ (Z.h w' b3 #[Z.p bp, Z.i b.at', Z.u b.lk.b, .bool b.lk.ge, .bool b.lk.st, Z.u b.lk.l, Z.u b.lk.c, .bool b.ld] 229) ∧ (Rd w' oA (rows Gs.oe os)) ∧ (Gs.ku w' os) ∧ (aA (fun k => aH (.slice A n cp) k ∨ k = bp) w w')) (fun g w' => os.length - (RowKit.intOf (g 27)).toNat) ?_ (fun g2 qI hI => ?_)
 replace ae := ae.ai U3
 replace bH := bH.ai U3
 replace dG := dG.ai U3
 replace ag := U3.af ag
 replace hF := hF.go0 U3
 exact ⟨0, (⟨cs, cur, i, Gs.zc, false⟩ : Gs.Br), (by rfl), Nat.zero_le _, rfl, ⟨hW, hi, Gs.AQ⟩, ag, ae, bF, bH, dG, hF⟩
 replace ae := ae.ai U3
 replace bH := bH.ai U3
 replace dG := dG.ai U3
 replace ag := U3.af ag
 replace hF := hF.go0 U3
 obtain ⟨k, b, g27, hk, hinv, hBk, ag, ae, bF, bH, dG, hF⟩ := hI
 rw [g27]
 refine az (lss _ _ _ _) (fun h4 => ?_) (fun h4 => ?_)
 refine aK ?_
 refine uh Gs.Bl (by kernel_rfl) (by kernel_rfl) bH (by rfl) (by omega) (by omega) (fun x5 hx5 => ?_)
 simp only [Int.toNat_natCast] at hx5
 refine Z.n ((Gs.oe (Gs.cZ 0 0 0 false)).toArray) (fun b6 w6 e6 oq _ U6 => ?_)
 have vS : bp ≠ b6 := by have := ak ag; omega
 have pg := ae.apart e6
 have LX : b3 ≠ b6 := by have := ak bF; omega
 have acD := bH.apart e6
 have acE := dG.apart e6
 have xG : w.heap.size ≤ b6 := by have := hF.size; omega
 refine Z.t 6 ((Gs.oe x5).toArray) (by (simp [Value.cells, Value.oneCell', Gs.cv, Gs.fv, Gs.ie, Gs.pe, Gs.oe, Gs.cZ, Gs.fe, Gs.fE, Gs.ce, Gs.dZ, Gs.re]; done)) oq (fun w7 oq _ U7 => ?_)
 refine Z.b 6 ((Gs.oe x5).toArray) oq ?_
 replace ae := (ae.ai U6).aG U7 pg
 replace dG := (dG.ai U6).aG U7 acE
 replace ag := U7.aj (U6.af ag) vS
 replace bF := U7.aj (U6.af bF) LX
 refine aN (ah3 (b := b) ag ae bF hBk (dG.get hx5) (how.get hx5) (hln.get hx5) (Gs.UV na1 hx5) (Gs.UV na2 hx5) (Gs.UV yt hx5)) (fun v8 w8 D8 => ?_)
 have aJ := ae
 replace hF := (hF.go0 U6).go1 U7 xG
 have qF8 := hF.size
 obtain ⟨rfl, ag, ae, bF, U8⟩ := D8
 replace bH := (bH.ai U6).aG U7 acD
 replace bH := bH.dY U8 (nar1.elim .inl fun h0 => nar2.elim .inl fun h1 => acC.elim .inl fun h2 => .inr fun k hk hs => by rcases hs with (hs | hs) | hs <;> first | exact h0 k hk hs | exact h1 k hk hs | exact h2 k hk hs)
 replace dG := dG.dY U8 (na1.elim .inl fun h0 => na2.elim .inl fun h1 => yt.elim .inl fun h2 => .inr fun k hk hs => by rcases hs with (hs | hs) | hs <;> first | exact h0 k hk hs | exact h1 k hk hs | exact h2 k hk hs)
 replace hF := hF.go U8 (fun i hi hs => by (rcases hs with (hs | hs) | hs <;> first | exact .inl hs | exact .inr hs | (subst hs; omega)))
 clear aJ
 refine az (jQ _ _ _ _ _) (fun h9 => ?_) (fun h9 => ?_)
 refine aK ?_
 refine dw ?_
 refine Z.f 1 ?_
 refine Z.l bF ?_
 rw [Gs.aaH hinv (Gs.XP hx5) (by assumption)]; exact ⟨_, rfl, _, _, rfl, ag, ae, hF⟩
 refine aF ?_
 refine au (dL _ (by omega)) ?_
 exact ⟨⟨k + 1, (Gs.ug x5.m b).1, (by rfl), by omega, (Gs.WC hinv (Gs.XP hx5) (Classical.not_not.1 (by assumption))), (hBk.do (how.get hx5).2.1 (how.get hx5).2.2.1), ag, ae, bF, bH, dG, hF⟩, cnt_lt (by rfl) rfl (by omega)⟩
 refine aF ?_
 refine hJ1 _ _ ?_
 exact ⟨_, (Gs.aaI hinv (by omega)), ag, ae, bF, bH, dG, hF⟩
 replace ae := ae.ai U3
 replace bH := bH.ai U3
 replace dG := dG.ai U3
 replace ag := U3.af ag
 replace hF := hF.go0 U3
 obtain ⟨b, hfin, ag, ae, bF, bH, dG, hF⟩ := hI
 refine dw ?_
 refine Z.f 1 ?_
 refine Z.l bF ?_
 refine au (gK (by kernel_rfl) _ _ _) ?_
 rw [hfin]; exact ⟨_, rfl, _, _, rfl, ag, ae, hF⟩
theorem UW {r c cur : Int} {A : Option Addr} {n cp bp B0 : Nat} {cs : List Gs.Cell} {w : World} (ag : Z.h w bp #[Z.i r, Z.i c, .slice A n cp, Z.i cur] 91) (ae : Own B0 w 37 5 (.slice A n cp) (rows Gs.cv cs)) (hW : Gs.Pw r c n cs cur)  :
    oX 90 #[Z.p bp] w fun e w' => ∃ v, e = .returned v ∧ ∃ q : Int, v = Z.i q ∧ Z.h w' bp #[Z.i r, Z.i c, .slice A n cp, Z.i (Gs.sU (Gs.Ed cs))] 91 ∧ Own B0 w' 37 5 (.slice A n cp) (rows Gs.cv (Gs.Ed cs)) ∧ aA (fun k => aH (.slice A n cp) k ∨ k = bp) w w' := by
 refine Xk.calls ?_
 unfold Xk
 obtain ⟨hn, hcw, hcu, hp, hN, hb⟩ := id hW; have hrc := hW.rc
 have wJ := ak ag
 have l7 := Own.lt ae
 have hF : aA (fun k => aH (.slice A n cp) k ∨ k = bp) w w := Fr.refl _ _ _
 refine Z.x _ (fun b1 w1 e1 ah _ U1 => ?_)
 have kD : bp ≠ b1 := by have := ak ag; omega
 have ik := ae.apart e1
 have bZ : w.heap.size ≤ b1 := by have := hF.size; omega
 refine bP (fun g w' => ∃ (m : Int), (g 3 = Z.i m) ∧ (Z.h w' bp #[Z.i r, Z.i c, .slice A n cp, Z.i cur] 91) ∧ (Own B0 w' 37 5 (.slice A n cp) (rows Gs.cv (Gs.pF cs (Gs.ji cs)))) ∧ (Z.h w' b1 #[Z.p bp] 33) ∧ (aA (fun k => aH (.slice A n cp) k ∨ k = bp) w w')) (fun J1 hJ1 => ?_) (fun gJ1 jK hI => ?_)
 refine Z.l ah ?_
 replace ae := ae.ai U1
 replace ag := U1.af ag
 refine aB (fK ag ae hn) (fun w2 U2 => ?_)
 refine eF (fun g w' => ∃ (k : Nat) (m : Int), (g 9 = Z.i (k : Int)) ∧ (k ≤ n) ∧ (g 3 = Z.i m) ∧ (Z.h w' bp #[Z.i r, Z.i c, .slice A n cp, Z.i cur] 91) ∧ (Own B0 w' 37 5 (.slice A n cp) (rows Gs.cv (Gs.pF cs ((Gs.ji cs).take k)))) ∧ (Z.h w' b1 #[Z.p bp] 33) ∧ (aA (fun k => aH (.slice A n cp) k ∨ k = bp) w w')) (fun g w' => n - (RowKit.intOf (g 9)).toNat) ?_ (fun g2 qI hI => ?_)
 replace hF := (hF.go0 U1).go0 U2
 replace ae := ae.ai U2
 replace ag := U2.af ag
 replace ah := U2.af ah
 exact ⟨0, 0, (by rfl), Nat.zero_le _, (by rfl), ag, (by rw [List.take_zero]; exact ae), ah, hF⟩
 replace hF := (hF.go0 U1).go0 U2
 replace ae := ae.ai U2
 replace ag := U2.af ag
 replace ah := U2.af ah
 obtain ⟨k, m, g9, hk, g3, ag, ae, ah, hF⟩ := hI
 rw [g9]
 rw [g3]
 have hwk := Gs.Fh hcw ((Gs.ji cs).take k)
 have hlk := hn.trans hwk.2.symm
 refine az (lss _ _ _ _) (fun h3 => ?_) (fun h3 => ?_)
 refine aK ?_
 refine bP (fun g w' => ∃ (m : Int), (g 3 = Z.i m) ∧ (Z.h w' bp #[Z.i r, Z.i c, .slice A n cp, Z.i cur] 91) ∧ (Own B0 w' 37 5 (.slice A n cp) (rows Gs.cv (Gs.pF cs ((Gs.ji cs).take (k + 1))))) ∧ (Z.h w' b1 #[Z.p bp] 33) ∧ (aA (fun k => aH (.slice A n cp) k ∨ k = bp) w w')) (fun J3 hJ3 => ?_) (fun gJ3 KN hI => ?_)
 refine Z.l ah ?_
 refine dU (mV ag ae hlk hN hb hwk.1 (i := (k : Int))) (fun w4 U4 h4 => ?_) (fun w4 U4 h4 => ?_)
 refine aK ?_
 replace ah := U4.af ah
 refine Z.l ah ?_
 refine au (bG (l := [(0, 1), (1, 1), (2, 1), (3, 1), (4, 1)]) (z := #[Z.u 0, .bool false, .bool false, Z.u 0, Z.u 0]) (cs := (Gs.cv Gs.zc)) (by kernel_rfl) (by rfl)) ?_
 replace ae := ae.ai U4
 replace ag := U4.af ag
 refine aN (jv ag ae hlk (i := (k : Int)) (x := Gs.zc)) (fun v5 w5 D5 => ?_)
 obtain ⟨rfl, N5, U5⟩ := D5
 have aJ := ae
 replace ag := U5.get ag (fun h => Own.aS aJ ag (by decide) _ h rfl)
 replace ae := N5
 replace ah := U5.get ah (fun h => ik _ h rfl)
 replace hF := hF.go0 U4
 replace hF := hF.go U5 (fun i h hs => .inl hs)
 clear aJ
 refine au (Gj _ _ _ _) ?_
 refine hJ3 _ _ ?_
 exact ⟨_, (by rfl), ag, (by rw [Gs.BF (Gs.BC (by omega))]; (rw [if_pos (by assumption)]; exact ae)), ah, hF⟩
 refine aF ?_
 refine hJ3 _ _ ?_
 replace ae := ae.ai U4
 replace ag := U4.af ag
 replace ah := U4.af ah
 replace hF := hF.go0 U4
 exact ⟨_, (by exact g3), ag, (by rw [Gs.BF (Gs.BC (by omega))]; (rw [if_neg (Bool.eq_false_iff.1 (by assumption))]; exact ae)), ah, hF⟩
 obtain ⟨m, g3, ag, ae, ah, hF⟩ := hI
 refine au (dL _ (by omega)) ?_
 exact ⟨⟨k + 1, _, (by rfl), by omega, (by exact g3), ag, ae, ah, hF⟩, cnt_lt (by rfl) rfl (by omega)⟩
 refine aF ?_
 refine hJ1 _ _ ?_
 exact ⟨_, (by exact g3), ag, (by rw [List.take_of_length_le (by rw [Gs.zS]; omega)] at ae; exact ae), ah, hF⟩
 replace ae := ae.ai U1
 replace ag := U1.af ag
 replace hF := hF.go0 U1
 obtain ⟨m, g3, ag, ae, ah, hF⟩ := hI
 rw [g3]
 obtain ⟨cw, hcwd⟩ : ∃ x, x = Gs.pF cs (Gs.ji cs) := ⟨_, rfl⟩
 have hwl := Gs.Fh hcw (Gs.ji cs)
 rw [← hcwd] at ae hwl
 have hnw := hn.trans hwl.2.symm
 refine bP (fun g w' => ∃ (D5 : Nat), (g 1000000 = mkV D5 undef) ∧ (w.heap.size ≤ D5) ∧ (w'.heap[D5]? = some (.deferred (some []))) ∧ (Z.h w' bp #[Z.i r, Z.i c, .slice A n cp, Z.i cur] 91) ∧ (Own B0 w' 37 5 (.slice A n cp) (rows Gs.cv (Gs.oz cw (Gs.bW cw)))) ∧ (Z.h w' b1 #[Z.p bp] 33) ∧ (aA (fun k => aH (.slice A n cp) k ∨ k = bp) w w')) (fun J4 hJ4 => ?_) (fun gJ4 wJ4 hI => ?_)
 refine Z.l ah ?_
 refine aN (xq ag ae hnw) (fun v6 w6 D6 => ?_)
 obtain ⟨b1_23, rfl, g1_23, eu, U6⟩ := D6
 have Wp : bp ≠ b1_23 := by have := ak ag; omega
 have zx : ∀ k, aH _ k → k ≠ b1_23 := fun k hk => by have := (Own.ge ae hk).2; omega
 have Wq : b1 ≠ b1_23 := by have := ak ah; omega
 have ad1 : w.heap.size ≤ b1_23 := by have := hF.size; omega
 refine um (by kernel_rfl) (fun w7 l5 D5 Rdy5 Bsy5 Dn5 y5 eD el dI dX lp1 lp2 lp3 sz7 U7 hY => ?_)
 have lp2_5 := lp2
 replace ag := U6.af ag
 have TU : bp ≠ D5 := by have := ak ag; omega
 have lT : bp ≠ l5 := by have := ak ag; omega
 replace ae := ae.ai U6
 have zO : ∀ k, aH _ k → k ≠ D5 := fun k hk => by have := (Own.ge ae hk).2; omega
 have ja : ∀ k, aH _ k → k ≠ l5 := fun k hk => by have := (Own.ge ae hk).2; omega
 replace ah := U6.af ah
 have TS : b1 ≠ D5 := by have := ak ah; omega
 have mF : b1 ≠ l5 := by have := ak ah; omega
 have Ws : b1_23 ≠ D5 := by have := ak eu; omega
 have pq : b1_23 ≠ l5 := by have := ak eu; omega
 replace hF := hF.go0 U6
 have yH : w.heap.size ≤ D5 := by have := hF.size; omega
 have ql : w.heap.size ≤ l5 := by have := hF.size; omega
 have lF : D5 ≠ l5 := by omega
 replace ae := ae.ai U7
 replace ag := U7.af ag
 replace ah := U7.af ah
 replace eu := U7.af eu
 replace hF := hF.go0 U7
 refine Calls.mono (uF (b1 := b1_23) (csF := fun k => Gs.oz cw ((Gs.bW cw).take k)) (J := (fun (k : Nat) (w' : World) => (Z.h w' bp #[Z.i r, Z.i c, .slice A n cp, Z.i cur] 91) ∧ (Own B0 w' 37 5 (.slice A n cp) (rows Gs.cv (Gs.oz cw ((Gs.bW cw).take k)))) ∧ (Z.h w' b1_23 #[Z.p bp] 33) ∧ (Z.h w' b1 #[Z.p bp] 33) ∧ (w'.heap[D5]? = some (.deferred (some []))) ∧ (w'.heap[l5]? = some Rdy5) ∧ (aA (fun k => aH (.slice A n cp) k ∨ k = bp) w w'))) (X := (fun _ => False)) (fun _ w' hJ => by obtain ⟨ag, ae, eu, ah, dI, dX, hF⟩ := hJ; exact ⟨eu, ag, ae⟩) (fun _ w' w'' hJ U' => by obtain ⟨ag, ae, eu, ah, dI, dX, hF⟩ := hJ; exact ⟨U'.af ag, ae.ai U', U'.af eu, U'.af ah, U'.af dI, U'.af dX, hF.go0 U'⟩) (fun _ _ h _ => h.elim) (fun _ => hnw.trans (Gs.uS cw _)) (fun _ => Gs.Bo hwl.1 _) (fun _ _ => by rw [Gs.Nw, Gs.Nw]) hN hb ?_ ?_) ?_
 intro k wl5 xk hx hI
 obtain ⟨ag, ae, eu, ah, dI, dX, hF⟩ := hI
 have hx : (Gs.bW cw)[k]? = some xk := hx
 have hk := (List.getElem?_eq_some_iff.1 hx).1
 have hxm := Gs.qm.1 (List.mem_of_getElem? hx)
 have hxn := hxm.1
 have hgw := Gs.tu (Gs.Bo hwl.1 ((Gs.bW cw).take k)) (xk : Int)
 have hol := Gs.uS cw ((Gs.bW cw).take k)
 refine hY [.agg (Gs.fv (Gs.kP (Gs.oz cw ((Gs.bW cw).take k)) xk)).toArray] _ _ rfl dX ?_
 simp only [List.getD_cons_zero, List.getD_cons_succ]
 refine Z.n ((Gs.fv Gs.zf).toArray) (fun b8 w8 e8 mG _ U8 => ?_)
 have CB : bp ≠ b8 := by have := ak ag; omega
 have xu := ae.apart e8
 have xw : b1_23 ≠ b8 := by have := ak eu; omega
 have CE : b1 ≠ b8 := by have := ak ah; omega
 have CG : D5 ≠ b8 := by have := ak dI; omega
 have CJ : l5 ≠ b8 := by have := ak dX; omega
 have Gl : w.heap.size ≤ b8 := by have := hF.size; omega
 refine Z.t 3 ((Gs.fv (Gs.kP (Gs.oz cw ((Gs.bW cw).take k)) xk)).toArray) (by (simp [Value.cells, Value.oneCell', Gs.cv, Gs.fv, Gs.ie, Gs.pe, Gs.oe, Gs.cZ, Gs.fe, Gs.fE, Gs.ce, Gs.dZ, Gs.re]; done)) mG (fun w9 mG _ U9 => ?_)
 replace dX := U9.aj (U8.af dX) CJ
 refine xn dX (fun w10 dX _ aW => ?_)
 refine Z.f 2 ?_
 replace mG := aW.aj mG (Ne.symm CJ)
 refine Z.l mG ?_
 refine dU (ny (Gs.Ud (Gs.Bo hwl.1 _) xk)) (fun nT bJ h11 => ?_) (fun nT bJ h11 => ?_)
 simp only [Z.d, Z.c] at h11
 refine aK ?_
 replace dX := bJ.af dX
 refine sD dX (fun w12 dX _ df => ?_)
 replace ae := ((((ae.ai U8).aG U9 xu).aG aW ja).ai bJ).aG df ja
 replace ag := df.aj (bJ.af (aW.aj (U9.aj (U8.af ag) CB) lT)) lT
 replace eu := df.aj (bJ.af (aW.aj (U9.aj (U8.af eu) xw) pq)) pq
 replace ah := df.aj (bJ.af (aW.aj (U9.aj (U8.af ah) CE) mF)) mF
 replace dI := df.aj (bJ.af (aW.aj (U9.aj (U8.af dI) CG) lF)) lF
 replace hF := ((((hF.go0 U8).go1 U9 Gl).go1 aW ql).go0 bJ).go1 df ql
 exact ⟨ag, (by rw [Gs.Gm hx]; have hpr := Gs.Gn hx; unfold Gs.qQ; (rw [if_pos (decide_eq_true (by omega))]; exact ae)), eu, ah, dI, dX, hF⟩
 simp only [Z.d, Z.c] at h11
 refine aF ?_
 replace ah := bJ.af (aW.aj (U9.aj (U8.af ah) CE) mF)
 refine Z.l ah ?_
 refine Z.f 0 ?_
 replace mG := bJ.af mG
 refine Z.l mG ?_
 replace ae := (((ae.ai U8).aG U9 xu).aG aW ja).ai bJ
 replace ag := bJ.af (aW.aj (U9.aj (U8.af ag) CB) lT)
 refine aB (iw ag ae (hnw.trans hol) (i := (xk : Int))) (fun uX dE => ?_)
 refine Z.n ((Gs.cv Gs.zc).toArray) (fun b14 sJ e14 dN _ dm => ?_)
 replace ag := dE.af ag
 have qB : bp ≠ b14 := by have := ak ag; omega
 replace ae := ae.ai dE
 have nV := ae.apart e14
 replace eu := dE.af (bJ.af (aW.aj (U9.aj (U8.af eu) xw) pq))
 have vV : b1_23 ≠ b14 := by have := ak eu; omega
 replace ah := dE.af ah
 have qC : b1 ≠ b14 := by have := ak ah; omega
 replace dI := dE.af (bJ.af (aW.aj (U9.aj (U8.af dI) CG) lF))
 have Ag : D5 ≠ b14 := by have := ak dI; omega
 replace dX := dE.af (bJ.af dX)
 have Ah : l5 ≠ b14 := by have := ak dX; omega
 replace mG := dE.af mG
 have Ai : b8 ≠ b14 := by have := ak mG; omega
 replace hF := ((((hF.go0 U8).go1 U9 Gl).go1 aW ql).go0 bJ).go0 dE
 have pM : w.heap.size ≤ b14 := by have := hF.size; omega
 refine Z.t 5 ((Gs.cv (Gs.bK (Gs.oz cw ((Gs.bW cw).take k)) xk)).toArray) (by (simp [Value.cells, Value.oneCell', Gs.cv, Gs.fv, Gs.ie, Gs.pe, Gs.oe, Gs.cZ, Gs.fe, Gs.fE, Gs.ce, Gs.dZ, Gs.re]; done)) dN (fun tX dN _ bU => ?_)
 refine Z.f 0 ?_
 refine Z.l dN ?_
 refine aB (yI hgw) (fun w16 bQ => ?_)
 refine Z.f 0 ?_
 replace dN := bQ.af dN
 refine Z.s dN (fun uY dN _ dh => ?_)
 replace ah := dh.aj (bQ.af (bU.aj (dm.af ah) qC)) qC
 refine Z.l ah ?_
 refine Z.f 0 ?_
 replace mG := dh.aj (bQ.af (bU.aj (dm.af mG) Ai)) Ai
 refine Z.l mG ?_
 refine Z.b 5 _ dN ?_
 replace ae := (((ae.ai dm).aG bU nV).ai bQ).aG dh nV
 replace ag := dh.aj (bQ.af (bU.aj (dm.af ag) qB)) qB
 refine aN (jv ag ae (hnw.trans hol) (i := (xk : Int)) (x := Gs.zy false (Gs.bK (Gs.oz cw ((Gs.bW cw).take k)) xk))) (fun v18 xh D18 => ?_)
 obtain ⟨rfl, N18, dO⟩ := D18
 have aJ := ae
 replace ag := dO.get ag (fun h => Own.aS aJ ag (by decide) _ h rfl)
 replace ae := N18
 replace eu := dh.aj (bQ.af (bU.aj (dm.af eu) vV)) vV
 replace eu := dO.get eu (fun h => zx _ h rfl)
 replace ah := dO.get ah (fun h => ik _ h rfl)
 replace dI := dh.aj (bQ.af (bU.aj (dm.af dI) Ag)) Ag
 replace dI := dO.get dI (fun h => zO _ h rfl)
 replace dX := dh.aj (bQ.af (bU.aj (dm.af dX) Ah)) Ah
 replace dX := dO.get dX (fun h => ja _ h rfl)
 replace hF := (((hF.go0 dm).go1 bU pM).go0 bQ).go1 dh pM
 replace hF := hF.go dO (fun i h hs => .inl hs)
 clear aJ
 refine sD dX (fun Aa dX _ eX => ?_)
 replace ae := ae.aG eX ja
 replace ag := eX.aj ag lT
 replace eu := eX.aj eu pq
 replace ah := eX.aj ah mF
 replace dI := eX.aj dI lF
 replace hF := hF.go1 eX ql
 exact ⟨ag, (by rw [Gs.Gm hx]; have hpr := Gs.Gn hx; unfold Gs.qQ; (rw [if_neg (fun hq => by have := of_decide_eq_true hq; omega)]; exact ae)), eu, ah, dI, dX, hF⟩
 exact ⟨ag, ae, eu, ah, dI, dX, hF⟩
 rintro e wE5 ⟨hv, hI | hI⟩
 obtain ⟨ag, ae, eu, ah, dI, dX, hF⟩ := hI
 refine ⟨hv, .inl ⟨dX, fun wY _ dR => ?_⟩⟩
 refine hJ4 _ _ ?_
 replace ae := ae.aG dR ja
 replace ag := dR.aj ag lT
 replace ah := dR.aj ah mF
 replace dI := dR.aj dI lF
 replace hF := hF.go1 dR ql
 exact ⟨_, (by rfl), yH, dI, ag, (by rw [show Gs.bW (Gs.oz cw (List.take 0 (Gs.bW cw))) = Gs.bW cw from rfl, List.take_of_length_le (Nat.le_refl _)] at ae; exact ae), ah, hF⟩
 exact hI.elim
 obtain ⟨D5, g1000000, yH, dI, ag, ae, ah, hF⟩ := hI
 rw [g1000000]
 refine dK (S := no) (fun BQ dV => ?_)
 replace ah := dV.af ah
 refine Z.m ah ?_
 refine Z.m ah ?_
 replace ae := ae.ai dV
 replace ag := dV.af ag
 refine fM (fun w' hw' => by have ag := hw'.af ag; have ae := ae.ai hw'; exact Ce ag ae (hnw.trans (Gs.uS cw _)) hN hb (Gs.Bo hwl.1 _)) ?_
 have hhb := Gs.JR (cs := (Gs.oz cw (Gs.bW cw))) (by have := Gs.uS cw (Gs.bW cw); omega)
 have hol := Gs.uS cw (Gs.bW cw)
 refine aI (fun ES jg => ?_)
 replace ae := ae.ai jg
 replace ag := jg.af ag
 refine aN (qZ ag ae (hnw.trans (Gs.uS cw _)) (i := Gs.sU (Gs.oz cw (Gs.bW cw)))) (fun v24 Ql D24 => ?_)
 obtain ⟨rfl, N24, jH⟩ := D24
 replace dI := jg.af (dV.af dI)
 replace hF := (hF.go0 dV).go0 jg
 replace ae := ae.aG jH (Own.aS ae (by assumption) (by decide))
 replace dI := jH.aj dI (by omega)
 replace ag := N24
 replace hF := hF.go jH (fun i _ h => .inr h)
 rw [if_pos (by omega)] at ag
 refine aI (fun Hz gz => ?_)
 replace dI := gz.af dI
 refine leave1 dI (fun IV _ gB => ?_)
 replace ae := ae.ai gz
 replace ag := gz.af ag
 replace hF := hF.go0 gz
 replace ae := ae.aG gB (Own.lq ae (by assumption))
 replace ag := gB.aj ag (by omega)
 subst hcwd
 replace hF := hF.go1 gB yH
 exact ⟨_, rfl, _, rfl, ag, ae, hF⟩
theorem AV {s : Gs.iV} {pv : Option Addr} {bs : Nat} {w : World} (ay : Z.h w bs #[Z.i s.r0, Z.i s.c0, Z.i s.r1, Z.i s.c1, Z.i s.wh, .pointer pv] 89) (hz0 : Gs.aZ s.r0 s.c0 ≠ 0) (hz1 : Gs.aZ s.r1 s.c1 ≠ 0) :
    oX 82 #[Z.p bs, Z.i 0] w fun e w' => ∃ v, e = .returned v ∧ ∃ bp g, Z.h w' bs #[Z.i (Gs.bT s 0).r0, Z.i (Gs.bT s 0).c0, Z.i (Gs.bT s 0).r1, Z.i (Gs.bT s 0).c1, Z.i (Gs.bT s 0).wh, Z.p bp] 89 ∧ w.heap.size ≤ bp ∧ Z.h w' bp #[Z.i (Gs.bT s 0).r, Z.i (Gs.bT s 0).c, .slice (some ⟨g, 0, none⟩) (Gs.bT s 0).cs.length (Gs.bT s 0).cs.length, Z.i (Gs.bT s 0).cur] 91 ∧ Own w.heap.size w' 37 5 (.slice (some ⟨g, 0, none⟩) (Gs.bT s 0).cs.length (Gs.bT s 0).cs.length) (rows Gs.cv (Gs.bT s 0).cs) ∧ aA (· = bs) w w' := by
 refine Qy.calls ?_
 unfold Qy
 have hF : aA (· = bs) w w := Fr.refl _ _ _
 refine dw ?_
 refine Z.f 4 ?_
 refine Z.s ay (fun w1 ay _ U1 => ?_)
 replace hF := hF.go U1 (fun i _ h => h)
 refine dw ?_
 refine Z.f 0 ?_
 refine au (GN (n := 2) (m := 2) (by kernel_rfl) (by decide) (by decide)) ?_
 refine Z.b 2 _ ay ?_
 refine aN (ww (r := s.r0) (c := s.c0) hz0) (fun v3 w3 D3 => ?_)
 obtain ⟨bp, g, rfl, gbp, ag, ae, U3⟩ := D3
 rw [← Gs.Df s.r0 s.c0] at ag ae
 rw [show List.replicate (Gs.GR s.r0 s.c0).length Gs.zc = Gs.GR s.r0 s.c0 by rw [Gs.Df]; rfl] at ae
 have uw : bs ≠ bp := by have := ak ay; omega
 have qo : w.heap.size ≤ bp := by have := hF.size; omega
 replace ae := ae.mono (B' := w.heap.size) hF.size
 refine Z.e ?_
 refine Z.e ?_
 refine dw ?_
 refine Z.f 5 ?_
 replace ay := U3.af ay
 refine Z.s ay (fun w4 ay _ U4 => ?_)
 replace ae := ae.aG U4 (Own.aS ae (by assumption) (by decide))
 replace hF := hF.go0 U3
 replace hF := hF.go U4 (fun i _ h => h)
 replace ag := U4.aj ag (Ne.symm uw)
 exact ⟨_, rfl, bp, g, ay, qo, ag, ae, hF⟩
theorem Ic {s : Gs.iV} {pv : Option Addr} {bs : Nat} {w : World} (ay : Z.h w bs #[Z.i s.r0, Z.i s.c0, Z.i s.r1, Z.i s.c1, Z.i s.wh, .pointer pv] 89) (hz0 : Gs.aZ s.r0 s.c0 ≠ 0) (hz1 : Gs.aZ s.r1 s.c1 ≠ 0) :
    oX 82 #[Z.p bs, Z.i 1] w fun e w' => ∃ v, e = .returned v ∧ ∃ bp g, Z.h w' bs #[Z.i (Gs.bT s 1).r0, Z.i (Gs.bT s 1).c0, Z.i (Gs.bT s 1).r1, Z.i (Gs.bT s 1).c1, Z.i (Gs.bT s 1).wh, Z.p bp] 89 ∧ w.heap.size ≤ bp ∧ Z.h w' bp #[Z.i (Gs.bT s 1).r, Z.i (Gs.bT s 1).c, .slice (some ⟨g, 0, none⟩) (Gs.bT s 1).cs.length (Gs.bT s 1).cs.length, Z.i (Gs.bT s 1).cur] 91 ∧ Own w.heap.size w' 37 5 (.slice (some ⟨g, 0, none⟩) (Gs.bT s 1).cs.length (Gs.bT s 1).cs.length) (rows Gs.cv (Gs.bT s 1).cs) ∧ aA (· = bs) w w' := by
 refine Qy.calls ?_
 unfold Qy
 have hF : aA (· = bs) w w := Fr.refl _ _ _
 refine dw ?_
 refine Z.f 4 ?_
 refine Z.s ay (fun w1 ay _ U1 => ?_)
 replace hF := hF.go U1 (fun i _ h => h)
 refine dw ?_
 refine Z.f 0 ?_
 refine au (GN (n := 2) (m := 2) (by kernel_rfl) (by decide) (by decide)) ?_
 refine Z.b 2 (#[Z.i s.r1, Z.i s.c1]) ay ?_
 refine aN (ww (r := s.r1) (c := s.c1) hz1) (fun v3 w3 D3 => ?_)
 obtain ⟨bp, g, rfl, gbp, ag, ae, U3⟩ := D3
 rw [← Gs.Df s.r1 s.c1] at ag ae
 rw [show List.replicate (Gs.GR s.r1 s.c1).length Gs.zc = Gs.GR s.r1 s.c1 by rw [Gs.Df]; rfl] at ae
 have uw : bs ≠ bp := by have := ak ay; omega
 have qo : w.heap.size ≤ bp := by have := hF.size; omega
 replace ae := ae.mono (B' := w.heap.size) hF.size
 refine Z.e ?_
 refine Z.e ?_
 refine dw ?_
 refine Z.f 5 ?_
 replace ay := U3.af ay
 refine Z.s ay (fun w4 ay _ U4 => ?_)
 replace ae := ae.aG U4 (Own.aS ae (by assumption) (by decide))
 replace hF := hF.go0 U3
 replace hF := hF.go U4 (fun i _ h => h)
 replace ag := U4.aj ag (Ne.symm uw)
 exact ⟨_, rfl, bp, g, ay, qo, ag, ae, hF⟩
theorem UX {s : Gs.iV} {pv : Option Addr} {bs : Nat} {w : World} (ay : Z.h w bs #[Z.i s.r0, Z.i s.c0, Z.i s.r1, Z.i s.c1, Z.i s.wh, .pointer pv] 89) (hz0 : Gs.aZ s.r0 s.c0 ≠ 0) (hz1 : Gs.aZ s.r1 s.c1 ≠ 0) {j : Int} (hj : j = 0 ∨ j = 1) :
    oX 82 #[Z.p bs, Z.i j] w (fun e w' => ∃ v, e = .returned v ∧ ∃ bp g, Z.h w' bs #[Z.i (Gs.bT s j).r0, Z.i (Gs.bT s j).c0, Z.i (Gs.bT s j).r1, Z.i (Gs.bT s j).c1, Z.i (Gs.bT s j).wh, Z.p bp] 89 ∧ w.heap.size ≤ bp ∧ Z.h w' bp #[Z.i (Gs.bT s j).r, Z.i (Gs.bT s j).c, .slice (some ⟨g, 0, none⟩) (Gs.bT s j).cs.length (Gs.bT s j).cs.length, Z.i (Gs.bT s j).cur] 91 ∧ Own w.heap.size w' 37 5 (.slice (some ⟨g, 0, none⟩) (Gs.bT s j).cs.length (Gs.bT s j).cs.length) (rows Gs.cv (Gs.bT s j).cs) ∧ aA (· = bs) w w') := by
 rcases hj with rfl | rfl
 exact AV ay hz0 hz1
 exact Ic ay hz0 hz1
abbrev XQ (s' : Gs.iV) (res : Gs.wz) (A : Option Addr) (n cp bp bs B0 : Nat) (w : World) : Ending → World → Prop := fun e w' => ∃ v, e = .returned v ∧ v = .agg (Gs.re res).toArray ∧ ∃ (bp' : Nat) (A' : Option Addr) (n' cp' : Nat), Z.h w' bs #[Z.i s'.r0, Z.i s'.c0, Z.i s'.r1, Z.i s'.c1, Z.i s'.wh, Z.p bp'] 89 ∧ Z.h w' bp' #[Z.i s'.r, Z.i s'.c, .slice A' n' cp', Z.i s'.cur] 91 ∧ Own B0 w' 37 5 (.slice A' n' cp') (rows Gs.cv s'.cs) ∧ n' = s'.cs.length ∧ (bp' = bp ∨ w.heap.size ≤ bp') ∧ (∀ k, aH (.slice A' n' cp') k → aH (.slice A n cp) k ∨ w.heap.size ≤ k) ∧ aA (fun k => (aH (.slice A n cp) k ∨ k = bp) ∨ k = bs) w w'
set_option maxHeartbeats 1000000 in
theorem ED {s : Gs.iV} {A : Option Addr} {n cp bp bs B0 : Nat} {w : World} (ay : Z.h w bs #[Z.i s.r0, Z.i s.c0, Z.i s.r1, Z.i s.c1, Z.i s.wh, Z.p bp] 89) (ag : Z.h w bp #[Z.i s.r, Z.i s.c, .slice A n cp, Z.i s.cur] 91) (ae : Own B0 w 37 5 (.slice A n cp) (rows Gs.cv s.cs)) (hS : Gs.Sw n s) {x : Gs.pJ} {fA : Option Addr} {fn fc : Nat} (gQ : Gs.iq w [⟨0, 0, x⟩]) (hwx : Gs.Bf x) (hlx : Gs.Fj x.os ∧ x.os.length ≤ 100000) (nax1 : [(⟨0, 0, x⟩ : Gs.Fd)] = [] ∨ ∀ k, Gs.lg [⟨0, 0, x⟩] k → ¬ aH (.slice A n cp) k) (nax2 : [(⟨0, 0, x⟩ : Gs.Fd)] = [] ∨ ∀ k, Gs.lg [⟨0, 0, x⟩] k → k ≠ bp) (nax3 : [(⟨0, 0, x⟩ : Gs.Fd)] = [] ∨ ∀ k, Gs.lg [⟨0, 0, x⟩] k → k ≠ bs) {i : Int} (hi : 0 ≤ i ∧ i < n) :
    oX 108 #[Z.p bs, .agg (Gs.ce x fA fn fc).toArray, Z.i i] w fun e w' => ∃ v, e = .returned v ∧ v = .agg (Gs.re (Gs.qJ s x.m i).2).toArray ∧ Z.h w' bp #[Z.i (Gs.qJ s x.m i).1.r, Z.i (Gs.qJ s x.m i).1.c, .slice A n cp, Z.i (Gs.qJ s x.m i).1.cur] 91 ∧ Own B0 w' 37 5 (.slice A n cp) (rows Gs.cv (Gs.qJ s x.m i).1.cs) ∧ aA (fun k => aH (.slice A n cp) k ∨ k = bp) w w' := by
 refine ZG.calls ?_
 unfold ZG
 have hW := hS.2
 obtain ⟨hn, hcw, hcu, hp, hN, hb⟩ := id hW
 have hF : aA (fun k => aH (.slice A n cp) k ∨ k = bp) w w := Fr.refl _ _ _
 refine Z.x ((Gs.ce x fA fn fc).toArray) (fun b1 w1 e1 ah _ U1 => ?_)
 have kD : bp ≠ b1 := by have := ak ag; omega
 refine Z.n ((Gs.re Gs.qi).toArray) (fun b2 w2 e2 ax _ U2 => ?_)
 replace ag := U1.af ag
 have eY : bp ≠ b2 := by have := ak ag; omega
 replace ae := ae.ai U1
 have dH := ae.apart e2
 replace hF := hF.go0 U1
 have eU : w.heap.size ≤ b2 := by have := hF.size; omega
 refine dK (S := (fun k => aH (.slice A n cp) k ∨ k = bp)) (fun w3 U3 => ?_)
 refine eG ?_
 refine Z.g 5 ?_
 replace ay := U3.af (U2.af (U1.af ay))
 refine bI (fun w' hw' => by have ay := (Fr.jk hw').af ay; exact (kT (by kernel_rfl) ay (by rfl))) ?_
 refine Z.g 2 ?_
 replace ah := U3.af (U2.af ah)
 refine bI (fun w' hw' => by have ah := (Fr.jk hw').af ah; exact (kT (by kernel_rfl) ah (by rfl))) ?_
 refine aI (fun w4 U4 => ?_)
 refine jo ?_
 replace gQ := (((gQ.ai U1).ai U2).ai U3).ai U4
 replace ae := ((ae.ai U2).ai U3).ai U4
 replace ag := U4.af (U3.af (U2.af ag))
 refine aN (RQ ag ae hW gQ.c.1 rfl hlx.2 gQ.c.2 hwx.2.2 hlx.1 (Gs.akj nax1) (Gs.akj nax2) (Gs.akk nax1) (Gs.akk nax2) hi) (fun v5 w5 D5 => ?_)
 have aJ := ae
 replace hF := ((hF.go0 U2).go0 U3).go0 U4
 have qF5 := hF.size
 obtain ⟨at18, dn18, rfl, ag, ae, U5⟩ := D5
 replace ay := U4.af ay
 replace ay := U5.get ay (fun hs => by rcases hs with hs | hs <;> first | (first | exact Own.aS aJ ay (by decide) _ hs rfl | (have := Own.ge aJ hs; omega)) | (exact absurd hs (by exact dP (by assumption) (by assumption) (by decide))))
 replace gQ := gQ.dY U5 (nax1.elim .inl fun h0 => nax2.elim .inl fun h1 => .inr fun k hk hs => by rcases hs with hs | hs <;> first | exact h0 k hk hs | exact h1 k hk hs)
 replace ah := U4.af ah
 replace ah := U5.get ah (fun hs => by rcases hs with hs | hs <;> first | (first | exact Own.aS aJ ah (by decide) _ hs rfl | (have := Own.ge aJ hs; omega)) | (exact absurd hs (Ne.symm kD)))
 replace ax := U4.af (U3.af ax)
 replace ax := U5.get ax (fun hs => by rcases hs with hs | hs <;> first | (first | exact Own.aS aJ ax (by decide) _ hs rfl | (have := Own.ge aJ hs; omega)) | (exact absurd hs (Ne.symm eY)))
 replace hF := hF.go U5 (fun i hi hs => by exact hs)
 clear aJ
 refine ⟨U5, ?_⟩
 refine bI (fun w' hw' => (DY (by rfl))) ?_
 refine bI (fun w' hw' => (DY (by rfl))) ?_
 refine bI (fun w' hw' => (DY (by rfl))) ?_
 refine aI (fun w6 U6 => ?_)
 refine bP (fun g w' => (g 9 = Z.i (if (Gs.lJ x.m.os (Gs.Jp s i)).2 = 0 then x.e else (Gs.lJ x.m.os (Gs.Jp s i)).2)) ∧ (Z.h w' bs #[Z.i s.r0, Z.i s.c0, Z.i s.r1, Z.i s.c1, Z.i s.wh, Z.p bp] 89) ∧ (Z.h w' bp #[Z.i (Gs.qJ s x.m i).1.r, Z.i (Gs.qJ s x.m i).1.c, .slice A n cp, Z.i (Gs.qJ s x.m i).1.cur] 91) ∧ (Own B0 w' 37 5 (.slice A n cp) (rows Gs.cv (Gs.qJ s x.m i).1.cs)) ∧ (Gs.iq w' [⟨0, 0, x⟩]) ∧ (Z.h w' b1 ((Gs.ce x fA fn fc).toArray) 124) ∧ (Z.h w' b2 ((Gs.re Gs.qi).toArray) 66) ∧ (aA (fun k => aH (.slice A n cp) k ∨ k = bp) w w')) (fun J1 hJ1 => ?_) (fun gJ1 jK hI => ?_)
 refine az (cu _ _ _ _ _) (fun h7 => ?_) (fun h7 => ?_)
 refine aK ?_
 refine Z.f 3 ?_
 replace ah := U6.af ah
 refine Z.l ah ?_
 refine hJ1 _ _ ?_
 replace gQ := gQ.ai U6
 replace ae := ae.ai U6
 replace ay := U6.af ay
 replace ax := U6.af ax
 replace ag := U6.af ag
 replace hF := hF.go0 U6
 exact ⟨(congrArg (Value.int .i64) (by exact (if_pos (by assumption)).symm)), ay, ag, ae, gQ, ah, ax, hF⟩
 refine aF ?_
 refine hJ1 _ _ ?_
 replace gQ := gQ.ai U6
 replace ae := ae.ai U6
 replace ay := U6.af ay
 replace ah := U6.af ah
 replace ax := U6.af ax
 replace ag := U6.af ag
 replace hF := hF.go0 U6
 exact ⟨(congrArg (Value.int .i64) (by exact (if_neg (by assumption)).symm)), ay, ag, ae, gQ, ah, ax, hF⟩
 replace gQ := gQ.ai U6
 replace ae := ae.ai U6
 replace ay := U6.af ay
 replace ah := U6.af ah
 replace ax := U6.af ax
 replace ag := U6.af ag
 replace hF := hF.go0 U6
 obtain ⟨g9, ay, ag, ae, gQ, ah, ax, hF⟩ := hI
 rw [g9]
 refine az (jQ _ _ _ _ _) (fun h8 => ?_) (fun h8 => ?_)
 refine aK ?_
 refine au (bG (l := [(0, 1), (1, 1), (2, 1), (3, 1)]) (z := #[Z.u 0, .bool false, .bool false, Z.i 0]) (cs := Gs.re (Gs.xB (if (Gs.lJ x.m.os (Gs.Jp s i)).2 = 0 then x.e else (Gs.lJ x.m.os (Gs.Jp s i)).2))) (by kernel_rfl) (by rfl)) ?_
 refine Z.t 4 ((Gs.re (Gs.xB (if (Gs.lJ x.m.os (Gs.Jp s i)).2 = 0 then x.e else (Gs.lJ x.m.os (Gs.Jp s i)).2))).toArray) (by (simp [Value.cells, Value.oneCell', Gs.cv, Gs.fv, Gs.ie, Gs.pe, Gs.oe, Gs.cZ, Gs.fe, Gs.fE, Gs.ce, Gs.dZ, Gs.re]; done)) ax (fun w10 ax _ aW => ?_)
 refine Z.a 4 ax ?_
 replace ae := ae.aG aW dH
 replace ag := aW.aj ag eY
 replace hF := hF.go1 aW eU
 exact ⟨_, rfl, (congrArg (fun q => Value.agg (Gs.re q).toArray) (Gs.akl (c := x.m) (by assumption)).symm), ag, ae, hF⟩
 refine aF ?_
 refine dK (S := no) (fun w12 df => ?_)
 refine Z.g 1 ?_
 replace ah := df.af ah
 refine Z.m ah ?_
 refine fM (fun w' hw' => Ry hwx.2.1) ?_
 refine Z.g 1 ?_
 refine Z.m ah ?_
 refine fM (fun w' hw' => VW hwx.2.1) ?_
 refine bI (fun w' hw' => (bG (l := [(0, 1), (1, 1), (2, 1), (3, 1)]) (z := #[Z.u 0, .bool false, .bool false, Z.i 0]) (cs := Gs.re ⟨0, decide (x.w / 2 % 2 = 1), decide (x.w / 4 % 2 = 1), 0⟩) (by kernel_rfl) (by rfl))) ?_
 refine aI (fun w16 bQ => ?_)
 replace ax := bQ.af (df.af ax)
 refine Z.t 4 ((Gs.re ⟨0, decide (x.w / 2 % 2 = 1), decide (x.w / 4 % 2 = 1), 0⟩).toArray) (by (simp [Value.cells, Value.oneCell', Gs.cv, Gs.fv, Gs.ie, Gs.pe, Gs.oe, Gs.cZ, Gs.fe, Gs.fE, Gs.ce, Gs.dZ, Gs.re]; done)) ax (fun uY ax _ dh => ?_)
 refine aI (fun xh dO => ?_)
 replace ax := dO.af ax
 refine Z.a 4 ax ?_
 replace ae := (((ae.ai df).ai bQ).aG dh dH).ai dO
 replace ag := dO.af (dh.aj (bQ.af (df.af ag)) eY)
 replace hF := (((hF.go0 df).go0 bQ).go1 dh eU).go0 dO
 exact ⟨_, rfl, (congrArg (fun q => Value.agg (Gs.re q).toArray) (Gs.abG (c := x.m) (Classical.not_not.1 (by assumption))).symm), ag, ae, hF⟩
theorem UY {n0 : Nat} {s : Gs.iV} {pv : Option Addr} {bs : Nat} {w : World} (ay : Z.h w bs #[Z.i s.r0, Z.i s.c0, Z.i s.r1, Z.i s.c1, Z.i s.wh, .pointer pv] 89) (hS : Gs.Sw n0 s) {x : Gs.pJ} {fA : Option Addr} {fn fc : Nat} (gQ : Gs.iq w [⟨0, 0, x⟩]) (hwx : Gs.Bf x) (hlx : Gs.Fj x.os ∧ x.os.length ≤ 100000) (nax3 : [(⟨0, 0, x⟩ : Gs.Fd)] = [] ∨ ∀ k, Gs.lg [⟨0, 0, x⟩] k → k ≠ bs) :
    oX 109 #[Z.p bs, .agg (Gs.ce x fA fn fc).toArray, Z.i 0] w fun e w' => ∃ v, e = .returned v ∧ v = .agg (Gs.re (Gs.iY s x.m 0).2).toArray ∧ ∃ bp g, Z.h w' bs #[Z.i (Gs.iY s x.m 0).1.r0, Z.i (Gs.iY s x.m 0).1.c0, Z.i (Gs.iY s x.m 0).1.r1, Z.i (Gs.iY s x.m 0).1.c1, Z.i (Gs.iY s x.m 0).1.wh, Z.p bp] 89 ∧ w.heap.size ≤ bp ∧ Z.h w' bp #[Z.i (Gs.iY s x.m 0).1.r, Z.i (Gs.iY s x.m 0).1.c, .slice (some ⟨g, 0, none⟩) (Gs.iY s x.m 0).1.cs.length (Gs.iY s x.m 0).1.cs.length, Z.i (Gs.iY s x.m 0).1.cur] 91 ∧ Own w.heap.size w' 37 5 (.slice (some ⟨g, 0, none⟩) (Gs.iY s x.m 0).1.cs.length (Gs.iY s x.m 0).1.cs.length) (rows Gs.cv (Gs.iY s x.m 0).1.cs) ∧ aA (· = bs) w w' := by
 refine Pm.calls ?_
 unfold Pm
 have XR := ak ay
 have akm := gQ.lt
 have hF : aA (· = bs) w w := Fr.refl _ _ _
 refine Z.x ((Gs.ce x fA fn fc).toArray) (fun b1 w1 e1 ah _ U1 => ?_)
 have wB : bs ≠ b1 := by have := ak ay; omega
 have acF := gQ.apart e1
 have bZ : w.heap.size ≤ b1 := by have := hF.size; omega
 refine Z.n ((Gs.re Gs.qi).toArray) (fun b2 w2 e2 ax _ U2 => ?_)
 replace ay := U1.af ay
 have jd : bs ≠ b2 := by have := ak ay; omega
 replace gQ := gQ.ai U1
 have acG := gQ.apart e2
 have lS : b1 ≠ b2 := by have := ak ah; omega
 replace hF := hF.go0 U1
 have eU : w.heap.size ≤ b2 := by have := hF.size; omega
 replace ay := U2.af ay
 refine aN (AV ay hS.1.1 hS.1.2) (fun v3 w3 D3 => ?_)
 obtain ⟨bp, g, N3, gbp, ag, ae, U3⟩ := D3
 have hS1 := hS.renew 0
 have hp1 := hS1.2.2.2.2.1
 have hc1 : (Gs.bT s 0).cur = 0 := by unfold Gs.bT; split <;> rfl
 have uw : bs ≠ bp := by have := ak ay; omega
 replace gQ := gQ.ai U2
 have acH := (gQ.lt).ne (b := bp) (by omega)
 replace ah := U2.af ah
 have Dh : b1 ≠ bp := by have := ak ah; omega
 have Di : b2 ≠ bp := by have := ak ax; omega
 replace hF := hF.go0 U2
 have qo : w.heap.size ≤ bp := by have := hF.size; omega
 have PN : ¬ aH _ bs := fun h => by have := (Own.ge ae h).1; have := ak ay; omega
 have RS : _ ∨ ∀ k, _ → ¬ aH _ k := (gQ.lt).imp_right fun h k hk hs => by have := h k hk; have := (Own.ge ae hs).1; omega
 have PO : ¬ aH _ b1 := fun h => by have := (Own.ge ae h).1; have := ak ah; omega
 have PP : ¬ aH _ b2 := fun h => by have := (Own.ge ae h).1; have := ak ax; omega
 replace ae := ae.mono (B' := w.heap.size) hF.size
 replace ay := N3
 replace hF := hF.go U3 (fun i _ h => h)
 replace ah := U3.aj ah (Ne.symm wB)
 refine Z.b 5 ((Gs.ce x fA fn fc).toArray) ah ?_
 replace gQ := gQ.aG U3 nax3
 replace ax := U3.aj ax (Ne.symm jd)
 refine aN (ED (s := (Gs.bT s 0)) ay ag ae hS1 gQ hwx hlx (by assumption) (by assumption) nax3 (i := 0) ⟨by decide, by omega⟩) (fun v4 w4 D4 => ?_)
 have aJ := ae
 have qF4 := hF.size
 obtain ⟨rfl, ag, ae, U4⟩ := D4
 replace ay := U4.get ay (fun hs => by rcases hs with hs | hs <;> first | (first | exact Own.aS aJ ay (by decide) _ hs rfl | (have := Own.ge aJ hs; omega)) | (exact absurd hs uw))
 replace ax := U4.get ax (fun hs => by rcases hs with hs | hs <;> first | (first | exact Own.aS aJ ax (by decide) _ hs rfl | (have := Own.ge aJ hs; omega)) | (exact absurd hs Di))
 replace hF := hF.go U4 (fun i hi hs => by (rcases hs with hs | hs <;> first | (subst hs; omega) | (have := (Own.ge aJ hs).1; omega)))
 clear aJ
 refine Z.t 4 ((Gs.re (Gs.iY s x.m 0).2).toArray) (by (simp [Value.cells, Value.oneCell', Gs.cv, Gs.fv, Gs.ie, Gs.pe, Gs.oe, Gs.cZ, Gs.fe, Gs.fE, Gs.ce, Gs.dZ, Gs.re]; done)) ax (fun w5 ax _ U5 => ?_)
 replace ae := ae.aG U5 (Own.aS ae (by assumption) (by decide))
 refine Z.a 4 ax ?_
 replace ag := U5.aj ag (Ne.symm Di)
 rw [(hS.erase (c := x.m) (Gs.sQ.of hwx.2.2) 0).2.1] at ag ae
 replace ay := U5.aj ay jd
 replace hF := hF.go1 U5 eU
 exact ⟨_, rfl, rfl, bp, g, ay, qo, ag, ae, hF⟩
theorem UZ {n0 : Nat} {s : Gs.iV} {pv : Option Addr} {bs : Nat} {w : World} (ay : Z.h w bs #[Z.i s.r0, Z.i s.c0, Z.i s.r1, Z.i s.c1, Z.i s.wh, .pointer pv] 89) (hS : Gs.Sw n0 s) {x : Gs.pJ} {fA : Option Addr} {fn fc : Nat} (gQ : Gs.iq w [⟨0, 0, x⟩]) (hwx : Gs.Bf x) (hlx : Gs.Fj x.os ∧ x.os.length ≤ 100000) (nax3 : [(⟨0, 0, x⟩ : Gs.Fd)] = [] ∨ ∀ k, Gs.lg [⟨0, 0, x⟩] k → k ≠ bs) :
    oX 109 #[Z.p bs, .agg (Gs.ce x fA fn fc).toArray, Z.i 1] w fun e w' => ∃ v, e = .returned v ∧ v = .agg (Gs.re (Gs.iY s x.m 1).2).toArray ∧ ∃ bp g, Z.h w' bs #[Z.i (Gs.iY s x.m 1).1.r0, Z.i (Gs.iY s x.m 1).1.c0, Z.i (Gs.iY s x.m 1).1.r1, Z.i (Gs.iY s x.m 1).1.c1, Z.i (Gs.iY s x.m 1).1.wh, Z.p bp] 89 ∧ w.heap.size ≤ bp ∧ Z.h w' bp #[Z.i (Gs.iY s x.m 1).1.r, Z.i (Gs.iY s x.m 1).1.c, .slice (some ⟨g, 0, none⟩) (Gs.iY s x.m 1).1.cs.length (Gs.iY s x.m 1).1.cs.length, Z.i (Gs.iY s x.m 1).1.cur] 91 ∧ Own w.heap.size w' 37 5 (.slice (some ⟨g, 0, none⟩) (Gs.iY s x.m 1).1.cs.length (Gs.iY s x.m 1).1.cs.length) (rows Gs.cv (Gs.iY s x.m 1).1.cs) ∧ aA (· = bs) w w' := by
 refine Pm.calls ?_
 unfold Pm
 have XR := ak ay
 have akm := gQ.lt
 have hF : aA (· = bs) w w := Fr.refl _ _ _
 refine Z.x ((Gs.ce x fA fn fc).toArray) (fun b1 w1 e1 ah _ U1 => ?_)
 have wB : bs ≠ b1 := by have := ak ay; omega
 have acF := gQ.apart e1
 have bZ : w.heap.size ≤ b1 := by have := hF.size; omega
 refine Z.n ((Gs.re Gs.qi).toArray) (fun b2 w2 e2 ax _ U2 => ?_)
 replace ay := U1.af ay
 have jd : bs ≠ b2 := by have := ak ay; omega
 replace gQ := gQ.ai U1
 have acG := gQ.apart e2
 have lS : b1 ≠ b2 := by have := ak ah; omega
 replace hF := hF.go0 U1
 have eU : w.heap.size ≤ b2 := by have := hF.size; omega
 replace ay := U2.af ay
 refine aN (Ic ay hS.1.1 hS.1.2) (fun v3 w3 D3 => ?_)
 obtain ⟨bp, g, N3, gbp, ag, ae, U3⟩ := D3
 have hS1 := hS.renew 1
 have hp1 := hS1.2.2.2.2.1
 have hc1 : (Gs.bT s 1).cur = 0 := by unfold Gs.bT; split <;> rfl
 have uw : bs ≠ bp := by have := ak ay; omega
 replace gQ := gQ.ai U2
 have acH := (gQ.lt).ne (b := bp) (by omega)
 replace ah := U2.af ah
 have Dh : b1 ≠ bp := by have := ak ah; omega
 have Di : b2 ≠ bp := by have := ak ax; omega
 replace hF := hF.go0 U2
 have qo : w.heap.size ≤ bp := by have := hF.size; omega
 have PN : ¬ aH _ bs := fun h => by have := (Own.ge ae h).1; have := ak ay; omega
 have RS : _ ∨ ∀ k, _ → ¬ aH _ k := (gQ.lt).imp_right fun h k hk hs => by have := h k hk; have := (Own.ge ae hs).1; omega
 have PO : ¬ aH _ b1 := fun h => by have := (Own.ge ae h).1; have := ak ah; omega
 have PP : ¬ aH _ b2 := fun h => by have := (Own.ge ae h).1; have := ak ax; omega
 replace ae := ae.mono (B' := w.heap.size) hF.size
 replace ay := N3
 replace hF := hF.go U3 (fun i _ h => h)
 replace ah := U3.aj ah (Ne.symm wB)
 refine Z.b 5 ((Gs.ce x fA fn fc).toArray) ah ?_
 replace gQ := gQ.aG U3 nax3
 replace ax := U3.aj ax (Ne.symm jd)
 refine aN (ED (s := (Gs.bT s 1)) ay ag ae hS1 gQ hwx hlx (by assumption) (by assumption) nax3 (i := 0) ⟨by decide, by omega⟩) (fun v4 w4 D4 => ?_)
 have aJ := ae
 have qF4 := hF.size
 obtain ⟨rfl, ag, ae, U4⟩ := D4
 replace ay := U4.get ay (fun hs => by rcases hs with hs | hs <;> first | (first | exact Own.aS aJ ay (by decide) _ hs rfl | (have := Own.ge aJ hs; omega)) | (exact absurd hs uw))
 replace ax := U4.get ax (fun hs => by rcases hs with hs | hs <;> first | (first | exact Own.aS aJ ax (by decide) _ hs rfl | (have := Own.ge aJ hs; omega)) | (exact absurd hs Di))
 replace hF := hF.go U4 (fun i hi hs => by (rcases hs with hs | hs <;> first | (subst hs; omega) | (have := (Own.ge aJ hs).1; omega)))
 clear aJ
 refine Z.t 4 ((Gs.re (Gs.iY s x.m 1).2).toArray) (by (simp [Value.cells, Value.oneCell', Gs.cv, Gs.fv, Gs.ie, Gs.pe, Gs.oe, Gs.cZ, Gs.fe, Gs.fE, Gs.ce, Gs.dZ, Gs.re]; done)) ax (fun w5 ax _ U5 => ?_)
 replace ae := ae.aG U5 (Own.aS ae (by assumption) (by decide))
 refine Z.a 4 ax ?_
 replace ag := U5.aj ag (Ne.symm Di)
 rw [(hS.erase (c := x.m) (Gs.sQ.of hwx.2.2) 1).2.1] at ag ae
 replace ay := U5.aj ay jd
 replace hF := hF.go1 U5 eU
 exact ⟨_, rfl, rfl, bp, g, ay, qo, ag, ae, hF⟩
theorem aaJ {x : Int} {w : World} (hx : 0 ≤ x ∧ x ≤ 255) :
    oX 172 #[Z.u x] w fun e w' => e = .returned (Z.i (if x = 0 then 0 else 1)) ∧ aA no w w' := by
 refine ZU.calls ?_
 unfold ZU
 have hF : aA no w w := Fr.refl _ _ _
 refine az (cu _ _ _ _ _) (fun h1 => ?_) (fun h1 => ?_)
 refine aK ?_
 rw [if_pos (by assumption)]; exact ⟨rfl, hF⟩
 refine aF ?_
 rw [if_neg (by assumption)]; exact ⟨rfl, hF⟩
set_option maxHeartbeats 2000000 in
theorem QK {s : Gs.iV} {A : Option Addr} {n cp bp bs B0 : Nat} {w : World} (ay : Z.h w bs #[Z.i s.r0, Z.i s.c0, Z.i s.r1, Z.i s.c1, Z.i s.wh, Z.p bp] 89) (ag : Z.h w bp #[Z.i s.r, Z.i s.c, .slice A n cp, Z.i s.cur] 91) (ae : Own B0 w 37 5 (.slice A n cp) (rows Gs.cv s.cs)) (hS : Gs.Sw n s) (hB0 : B0 ≤ w.heap.size) {x : Gs.pJ} {fA : Option Addr} {fn fc : Nat} (gQ : Gs.iq w [⟨0, 0, x⟩]) (hwx : Gs.Bf x) (hlx : Gs.Fj x.os ∧ x.os.length ≤ 100000) (nax1 : [(⟨0, 0, x⟩ : Gs.Fd)] = [] ∨ ∀ k, Gs.lg [⟨0, 0, x⟩] k → ¬ aH (.slice A n cp) k) (nax2 : [(⟨0, 0, x⟩ : Gs.Fd)] = [] ∨ ∀ k, Gs.lg [⟨0, 0, x⟩] k → k ≠ bp) (nax3 : [(⟨0, 0, x⟩ : Gs.Fd)] = [] ∨ ∀ k, Gs.lg [⟨0, 0, x⟩] k → k ≠ bs) (hk243 : ¬ x.k = 243) :
    oX 65 #[Z.p bs, .agg (Gs.ce x fA fn fc).toArray] w (XQ (Gs.o7 s x.m).1 (Gs.o7 s x.m).2 A n cp bp bs B0 w) := by
 refine Xx.calls ?_
 unfold Xx
 have hW := hS.2
 obtain ⟨hn, hcw, hcu, hp, hN, hb⟩ := id hW
 have hF : aA (fun k => (aH (.slice A n cp) k ∨ k = bp) ∨ k = bs) w w := Fr.refl _ _ _
 refine Z.x ((Gs.ce x fA fn fc).toArray) (fun b1 w1 e1 ah _ U1 => ?_)
 have ik := ae.apart e1
 refine Z.n ((Gs.re Gs.qi).toArray) (fun b2 w2 e2 ax _ U2 => ?_)
 replace ay := U1.af ay
 have jd : bs ≠ b2 := by have := ak ay; omega
 replace ag := U1.af ag
 have eY : bp ≠ b2 := by have := ak ag; omega
 replace ae := ae.ai U1
 have dH := ae.apart e2
 replace hF := hF.go0 U1
 have eU : w.heap.size ≤ b2 := by have := hF.size; omega
 refine Z.f 0 ?_
 replace ah := U2.af ah
 refine Z.l ah ?_
 refine az (cu _ _ _ _ _) (fun h3 => ?_) (fun h3 => ?_)
 refine aK ?_
 refine bP (fun g w' => (Z.h w' bs #[Z.i s.r0, Z.i s.c0, Z.i s.r1, Z.i s.c1, Z.i s.wh, Z.p bp] 89) ∧ (Z.h w' bp #[Z.i s.r, Z.i s.c, .slice A n cp, Z.i s.cur] 91) ∧ (Own B0 w' 37 5 (.slice A n cp) (rows Gs.cv (Gs.AO s x.w).cs)) ∧ (Gs.iq w' [⟨0, 0, x⟩]) ∧ (Z.h w' b1 ((Gs.ce x fA fn fc).toArray) 124) ∧ (Z.h w' b2 ((Gs.re Gs.qi).toArray) 66) ∧ (aA (fun k => (aH (.slice A n cp) k ∨ k = bp) ∨ k = bs) w w')) (fun J1 hJ1 => ?_) (fun gJ1 jK hI => ?_)
 refine Z.f 1 ?_
 refine Z.l ah ?_
 refine dU (VX hwx.2.1) (fun w4 U4 h4 => ?_) (fun w4 U4 h4 => ?_)
 simp only [Z.d, Z.c] at h4
 refine aK ?_
 refine dw ?_
 refine Z.f 5 ?_
 replace ay := U4.af (U2.af ay)
 refine Z.l ay ?_
 replace ae := (ae.ai U2).ai U4
 replace ag := U4.af (U2.af ag)
 refine aN (Po ag ae hn hN hb hcw) (fun v5 w5 D5 => ?_)
 obtain ⟨rfl, N5, U5⟩ := D5
 have aJ := ae
 replace ay := U5.get ay (fun h => Own.aS aJ ay (by decide) _ h rfl)
 replace ag := U5.get ag (fun h => Own.aS aJ ag (by decide) _ h rfl)
 replace ae := N5
 replace gQ := ((gQ.ai U1).ai U2).ai U4
 replace gQ := gQ.dY U5 nax1
 replace ah := U4.af ah
 replace ah := U5.get ah (fun h => ik _ h rfl)
 replace ax := U4.af ax
 replace ax := U5.get ax (fun h => dH _ h rfl)
 replace hF := (hF.go0 U2).go0 U4
 replace hF := hF.go U5 (fun i h hs => .inl (.inl hs))
 clear aJ
 refine hJ1 _ _ ?_
 exact ⟨ay, ag, (by unfold Gs.AO; dsimp only; (rw [if_pos (by assumption)]; exact ae)), gQ, ah, ax, hF⟩
 simp only [Z.d, Z.c] at h4
 refine aF ?_
 refine hJ1 _ _ ?_
 replace gQ := ((gQ.ai U1).ai U2).ai U4
 replace ae := (ae.ai U2).ai U4
 replace ay := U4.af (U2.af ay)
 replace ag := U4.af (U2.af ag)
 replace hF := (hF.go0 U2).go0 U4
 replace ah := U4.af ah
 replace ax := U4.af ax
 exact ⟨ay, ag, (by unfold Gs.AO; dsimp only; (rw [if_neg (by assumption)]; exact ae)), gQ, ah, ax, hF⟩
 replace gQ := (gQ.ai U1).ai U2
 replace ae := ae.ai U2
 replace ay := U2.af ay
 replace ag := U2.af ag
 replace hF := hF.go0 U2
 obtain ⟨ay, ag, ae, gQ, ah, ax, hF⟩ := hI
 refine dK (S := no) (fun w6 U6 => ?_)
 replace ah := U6.af ah
 refine bI (fun w' hw' => by have ah := hw'.af ah; exact (zg (n := 5) (cs' := (Gs.ce x fA fn fc).toArray) (by kernel_rfl) ah (Nat.le_of_ble_eq_true rfl) (by rfl))) ?_
 refine eG ?_
 refine Z.g 5 ?_
 replace ay := U6.af ay
 refine Z.m ay ?_
 replace ae := ae.ai U6
 replace ag := U6.af ag
 refine fM (fun w' hw' => by have ag := hw'.af ag; have ae := ae.ai hw'; exact dW ag ae (hS.XT x.w).2.1) ?_
 refine aI (fun w8 U8 => ?_)
 replace gQ := (gQ.ai U6).ai U8
 replace ae := ae.ai U8
 replace ay := U8.af ay
 replace ag := U8.af ag
 refine aN (ED (s := Gs.AO s x.w) ay ag ae (hS.XT x.w) gQ hwx hlx nax1 nax2 nax3 (i := s.cur) hcu) (fun v9 w9 D9 => ?_)
 have aJ := ae
 replace hF := (hF.go0 U6).go0 U8
 have qF9 := hF.size
 obtain ⟨rfl, ag, ae, U9⟩ := D9
 replace ay := U9.get ay (fun hs => by rcases hs with hs | hs <;> first | (first | exact Own.aS aJ ay (by decide) _ hs rfl | (have := Own.ge aJ hs; omega)) | (exact absurd hs (by exact dP (by assumption) (by assumption) (by decide))))
 replace ax := U8.af (U6.af ax)
 replace ax := U9.get ax (fun hs => by rcases hs with hs | hs <;> first | (first | exact Own.aS aJ ax (by decide) _ hs rfl | (have := Own.ge aJ hs; omega)) | (exact absurd hs (Ne.symm eY)))
 replace hF := hF.go U9 (fun i hi hs => .inl hs)
 clear aJ
 refine aI (fun w10 aW => ?_)
 replace ax := aW.af ax
 refine Z.t 4 ((Gs.re (Gs.qJ (Gs.AO s x.w) x.m s.cur).2).toArray) (by (simp [Value.cells, Value.oneCell', Gs.cv, Gs.fv, Gs.ie, Gs.pe, Gs.oe, Gs.cZ, Gs.fe, Gs.fE, Gs.ce, Gs.dZ, Gs.re]; done)) ax (fun nT ax _ bJ => ?_)
 refine aI (fun w12 df => ?_)
 replace ax := df.af ax
 refine Z.a 4 ax ?_
 replace ae := ((ae.ai aW).aG bJ dH).ai df
 replace ay := df.af (bJ.aj (aW.af ay) jd)
 replace ag := df.af (bJ.aj (aW.af ag) eY)
 replace hF := ((hF.go0 aW).go1 bJ eU).go0 df
 rw [Gs.afx (c := x.m) (by assumption)]; exact ⟨_, rfl, rfl, bp, A, n, cp, ay, ag, ae, ((hS.XT x.w).write (Gs.sQ.of hwx.2.2) hcu).2.1, .inl rfl, (fun k hk => .inl hk), hF⟩
 refine aF ?_
 refine az (cu _ _ _ _ _) (fun h14 => ?_) (fun h14 => ?_)
 refine aK ?_
 refine Z.b 5 ((Gs.ce x fA fn fc).toArray) ah ?_
 replace gQ := (gQ.ai U1).ai U2
 replace ay := U2.af ay
 refine aN (UY ay hS gQ hwx hlx nax3) (fun v15 tX D15 => ?_)
 obtain ⟨rfl, bp2, g2, N15, gbp2, uy, jS, bU⟩ := D15
 have Ap : b2 ≠ bp2 := by have := ak ax; omega
 replace hF := hF.go0 U2
 have Dj : w.heap.size ≤ bp2 := by have := hF.size; omega
 replace jS := jS.mono (B' := w.heap.size) hF.size
 replace ay := N15
 replace hF := hF.go bU (fun i _ h => .inr h)
 replace ax := bU.aj ax (Ne.symm jd)
 refine Z.t 4 ((Gs.re (Gs.iY s x.m 0).2).toArray) (by (simp [Value.cells, Value.oneCell', Gs.cv, Gs.fv, Gs.ie, Gs.pe, Gs.oe, Gs.cZ, Gs.fe, Gs.fE, Gs.ce, Gs.dZ, Gs.re]; done)) ax (fun w16 ax _ bQ => ?_)
 replace jS := jS.aG bQ (Own.aS jS (by assumption) (by decide))
 refine Z.a 4 ax ?_
 replace ay := bQ.aj ay jd
 replace uy := bQ.aj uy (Ne.symm Ap)
 replace hF := hF.go1 bQ eU
 rw [Gs.amn (c := x.m) (by assumption)]; exact ⟨_, rfl, rfl, bp2, some ⟨g2, 0, none⟩, _, _, ay, uy, jS.mono hB0, rfl, .inr Dj, (fun k hk => .inr (Own.ge jS hk).1), hF⟩
 refine aF ?_
 refine az (cu _ _ _ _ _) (fun h18 => ?_) (fun h18 => ?_)
 refine aK ?_
 refine Z.b 5 ((Gs.ce x fA fn fc).toArray) ah ?_
 replace gQ := (gQ.ai U1).ai U2
 replace ay := U2.af ay
 refine aN (UZ ay hS gQ hwx hlx nax3) (fun v19 Aa D19 => ?_)
 obtain ⟨rfl, bp2, g2, N19, gbp2, uy, jS, eX⟩ := D19
 have Ap : b2 ≠ bp2 := by have := ak ax; omega
 replace hF := hF.go0 U2
 have Dj : w.heap.size ≤ bp2 := by have := hF.size; omega
 replace jS := jS.mono (B' := w.heap.size) hF.size
 replace ay := N19
 replace hF := hF.go eX (fun i _ h => .inr h)
 replace ax := eX.aj ax (Ne.symm jd)
 refine Z.t 4 ((Gs.re (Gs.iY s x.m 1).2).toArray) (by (simp [Value.cells, Value.oneCell', Gs.cv, Gs.fv, Gs.ie, Gs.pe, Gs.oe, Gs.cZ, Gs.fe, Gs.fE, Gs.ce, Gs.dZ, Gs.re]; done)) ax (fun wY ax _ dR => ?_)
 replace jS := jS.aG dR (Own.aS jS (by assumption) (by decide))
 refine Z.a 4 ax ?_
 replace ay := dR.aj ay jd
 replace uy := dR.aj uy (Ne.symm Ap)
 replace hF := hF.go1 dR eU
 rw [Gs.amo (c := x.m) (by assumption)]; exact ⟨_, rfl, rfl, bp2, some ⟨g2, 0, none⟩, _, _, ay, uy, jS.mono hB0, rfl, .inr Dj, (fun k hk => .inr (Own.ge jS hk).1), hF⟩
 refine aF ?_
 refine az (cu _ _ _ _ _) (fun h22 => ?_) (fun h22 => ?_)
 refine aK ?_
 refine dw ?_
 refine Z.f 5 ?_
 replace ay := U2.af ay
 refine Z.l ay ?_
 replace ae := ae.ai U2
 replace ag := U2.af ag
 refine aN (UW ag ae hW) (fun v23 ES D23 => ?_)
 obtain ⟨q41, rfl, M23, N23, jg⟩ := D23
 have aJ := ae
 replace ae := N23
 replace ay := jg.get ay (fun hs => Or.elim (show aH _ _ ∨ _ = _ from hs) (fun h => Own.aS aJ ay (by decide) _ h rfl) (fun hb => absurd hb (by exact dP (by assumption) (by assumption) (by decide))))
 replace ax := jg.get ax (fun hs => Or.elim (show aH _ _ ∨ _ = _ from hs) (fun h => dH _ h rfl) (fun hb => absurd hb (Ne.symm eY)))
 replace ag := M23
 replace hF := hF.go0 U2
 replace hF := hF.go jg (fun i h hs => Or.elim (show aH _ _ ∨ _ = _ from hs) (fun hs => .inl (.inl hs)) (fun hb => by (subst hb; omega)))
 clear aJ
 refine au (bG (l := [(0, 1), (1, 1), (2, 1), (3, 1)]) (z := #[Z.u 0, .bool false, .bool false, Z.i 0]) (cs := Gs.re ⟨0, true, false, 0⟩) (by kernel_rfl) (by rfl)) ?_
 refine Z.t 4 ((Gs.re ⟨0, true, false, 0⟩).toArray) (by (simp [Value.cells, Value.oneCell', Gs.cv, Gs.fv, Gs.ie, Gs.pe, Gs.oe, Gs.cZ, Gs.fe, Gs.fE, Gs.ce, Gs.dZ, Gs.re]; done)) ax (fun Hz ax _ gz => ?_)
 refine Z.a 4 ax ?_
 replace ae := ae.aG gz dH
 replace ay := gz.aj ay jd
 replace ag := gz.aj ag eY
 replace hF := hF.go1 gz eU
 rw [Gs.amq (c := x.m) (by assumption)]; exact ⟨_, rfl, rfl, bp, A, n, cp, ay, ag, ae, hn.trans (Gs.QL _).symm, .inl rfl, (fun k hk => .inl hk), hF⟩
 refine aF ?_
 refine bP (fun g w' => (g 43 = .bool (decide (x.k = 242 ∨ x.k = 246 ∨ x.k = 110))) ∧ (Z.h w' bs #[Z.i s.r0, Z.i s.c0, Z.i s.r1, Z.i s.c1, Z.i s.wh, Z.p bp] 89) ∧ (Z.h w' bp #[Z.i s.r, Z.i s.c, .slice A n cp, Z.i s.cur] 91) ∧ (Own B0 w' 37 5 (.slice A n cp) (rows Gs.cv s.cs)) ∧ (Gs.iq w' [⟨0, 0, x⟩]) ∧ (Z.h w' b1 ((Gs.ce x fA fn fc).toArray) 124) ∧ (Z.h w' b2 ((Gs.re Gs.qi).toArray) 66) ∧ (aA (fun k => (aH (.slice A n cp) k ∨ k = bp) ∨ k = bs) w w')) (fun J2 hJ2 => ?_) (fun gJ2 Tm hI => ?_)
 refine az (cu _ _ _ _ _) (fun h27 => ?_) (fun h27 => ?_)
 refine aK ?_
 refine hJ2 _ _ ?_
 replace gQ := (gQ.ai U1).ai U2
 replace ae := ae.ai U2
 replace ay := U2.af ay
 replace ag := U2.af ag
 replace hF := hF.go0 U2
 exact ⟨(by exact congrArg Value.bool (decide_eq_true (by omega)).symm), ay, ag, ae, gQ, ah, ax, hF⟩
 refine aF ?_
 refine az (cu _ _ _ _ _) (fun h28 => ?_) (fun h28 => ?_)
 refine aK ?_
 refine hJ2 _ _ ?_
 replace gQ := (gQ.ai U1).ai U2
 replace ae := ae.ai U2
 replace ay := U2.af ay
 replace ag := U2.af ag
 replace hF := hF.go0 U2
 exact ⟨(by exact congrArg Value.bool (decide_eq_true (by omega)).symm), ay, ag, ae, gQ, ah, ax, hF⟩
 refine aF ?_
 refine az (cu _ _ _ _ _) (fun h29 => ?_) (fun h29 => ?_)
 refine hJ2 _ _ ?_
 replace gQ := (gQ.ai U1).ai U2
 replace ae := ae.ai U2
 replace ay := U2.af ay
 replace ag := U2.af ag
 replace hF := hF.go0 U2
 exact ⟨(by exact congrArg Value.bool (decide_eq_true (by omega)).symm), ay, ag, ae, gQ, ah, ax, hF⟩
 refine hJ2 _ _ ?_
 replace gQ := (gQ.ai U1).ai U2
 replace ae := ae.ai U2
 replace ay := U2.af ay
 replace ag := U2.af ag
 replace hF := hF.go0 U2
 exact ⟨(by exact congrArg Value.bool (decide_eq_false (by omega)).symm), ay, ag, ae, gQ, ah, ax, hF⟩
 replace gQ := (gQ.ai U1).ai U2
 replace ae := ae.ai U2
 replace ay := U2.af ay
 replace ag := U2.af ag
 replace hF := hF.go0 U2
 obtain ⟨g43, ay, ag, ae, gQ, ah, ax, hF⟩ := hI
 rw [g43]
 refine jX (fun h30 => ?_) (fun h30 => ?_)
 simp only [Z.d, Z.c] at h30
 refine Z.f 0 ?_
 refine Z.l ah ?_
 refine au (bG (l := [(0, 1), (1, 1), (2, 1), (3, 1)]) (z := #[Z.u 0, .bool false, .bool false, Z.i 0]) (cs := Gs.re ⟨x.k, false, false, 0⟩) (by kernel_rfl) (by rfl)) ?_
 refine Z.t 4 ((Gs.re ⟨x.k, false, false, 0⟩).toArray) (by (simp [Value.cells, Value.oneCell', Gs.cv, Gs.fv, Gs.ie, Gs.pe, Gs.oe, Gs.cZ, Gs.fe, Gs.fE, Gs.ce, Gs.dZ, Gs.re]; done)) ax (fun w32 ax _ lZ => ?_)
 refine Z.a 4 ax ?_
 replace ae := ae.aG lZ dH
 replace ay := lZ.aj ay jd
 replace ag := lZ.aj ag eY
 replace hF := hF.go1 lZ eU
 rw [Gs.amr (c := x.m) (by assumption)]; exact ⟨_, rfl, rfl, bp, A, n, cp, ay, ag, ae, hn, .inl rfl, (fun k hk => .inl hk), hF⟩
 simp only [Z.d, Z.c] at h30
 refine jq (cu _ _ _ _ _) (hk243) ?_
 refine aF ?_
 refine au (bG (l := [(0, 1), (1, 1), (2, 1), (3, 1)]) (z := #[Z.u 0, .bool false, .bool false, Z.i 0]) (cs := Gs.re (Gs.xB 30)) (by kernel_rfl) (by rfl)) ?_
 refine Z.t 4 ((Gs.re (Gs.xB 30)).toArray) (by (simp [Value.cells, Value.oneCell', Gs.cv, Gs.fv, Gs.ie, Gs.pe, Gs.oe, Gs.cZ, Gs.fe, Gs.fE, Gs.ce, Gs.dZ, Gs.re]; done)) ax (fun w35 ax _ pV => ?_)
 refine Z.a 4 ax ?_
 replace ae := ae.aG pV dH
 replace ay := pV.aj ay jd
 replace ag := pV.aj ag eY
 replace hF := hF.go1 pV eU
 rw [Gs.ams (c := x.m) (by show ¬ (x.k = 241 ∨ x.k = 245 ∨ x.k = 126 ∨ x.k = 111 ∨ x.k = 242 ∨ x.k = 246 ∨ x.k = 110); omega)]; exact ⟨_, rfl, rfl, bp, A, n, cp, ay, ag, ae, hn, .inl rfl, (fun k hk => .inl hk), hF⟩
set_option maxHeartbeats 1000000 in
theorem WE {s : Gs.iV} {A : Option Addr} {n cp bp bs B0 : Nat} {w : World} (ay : Z.h w bs #[Z.i s.r0, Z.i s.c0, Z.i s.r1, Z.i s.c1, Z.i s.wh, Z.p bp] 89) (ag : Z.h w bp #[Z.i s.r, Z.i s.c, .slice A n cp, Z.i s.cur] 91) (ae : Own B0 w 37 5 (.slice A n cp) (rows Gs.cv s.cs)) (hS : Gs.Sw n s) (hB0 : B0 ≤ w.heap.size) {f : Gs.Fd} (gQ : Gs.iq w [f]) (hwf : (0 ≤ f.id ∧ f.id ≤ 255) ∧ (0 ≤ f.op ∧ f.op ≤ 255) ∧ Gs.Bf f.c) (hlx : Gs.Fj f.c.os ∧ f.c.os.length ≤ 100000) (hin : f.id = 1 ∨ f.id = 3 ∨ Gs.tq f.c.k) (nax1 : [(f : Gs.Fd)] = [] ∨ ∀ k, Gs.lg [f] k → ¬ aH (.slice A n cp) k) (nax2 : [(f : Gs.Fd)] = [] ∨ ∀ k, Gs.lg [f] k → k ≠ bp) (nax3 : [(f : Gs.Fd)] = [] ∨ ∀ k, Gs.lg [f] k → k ≠ bs)  :
    oX 153 #[Z.p bs, .agg (Gs.fe f).toArray] w (XQ (Gs.fQ s f.m).1 (Gs.fQ s f.m).2 A n cp bp bs B0 w) := by
 refine ZK.calls ?_
 unfold ZK
 have hW := hS.2
 obtain ⟨hn, hcw, hcu, hp, hN, hb⟩ := id hW
 have hF : aA (fun k => (aH (.slice A n cp) k ∨ k = bp) ∨ k = bs) w w := Fr.refl _ _ _
 refine Z.x ((Gs.fe f).toArray) (fun b1 w1 e1 ah _ U1 => ?_)
 refine Z.n ((Gs.re Gs.qi).toArray) (fun b2 w2 e2 ax _ U2 => ?_)
 replace ay := U1.af ay
 have jd : bs ≠ b2 := by have := ak ay; omega
 replace ag := U1.af ag
 have eY : bp ≠ b2 := by have := ak ag; omega
 replace ae := ae.ai U1
 have dH := ae.apart e2
 replace hF := hF.go0 U1
 have eU : w.heap.size ≤ b2 := by have := hF.size; omega
 refine Z.f 0 ?_
 replace ah := U2.af ah
 refine Z.l ah ?_
 refine az (cu _ _ _ _ _) (fun h3 => ?_) (fun h3 => ?_)
 refine aK ?_
 refine Z.f 1 ?_
 refine Z.l ah ?_
 refine au (bG (l := [(0, 1), (1, 1), (2, 1), (3, 1)]) (z := #[Z.u 0, .bool false, .bool false, Z.i 0]) (cs := Gs.re ⟨f.op, false, false, 0⟩) (by kernel_rfl) (by rfl)) ?_
 refine Z.t 4 ((Gs.re ⟨f.op, false, false, 0⟩).toArray) (by (simp [Value.cells, Value.oneCell', Gs.cv, Gs.fv, Gs.ie, Gs.pe, Gs.oe, Gs.cZ, Gs.fe, Gs.fE, Gs.ce, Gs.dZ, Gs.re]; done)) ax (fun w5 ax _ U5 => ?_)
 refine Z.a 4 ax ?_
 replace ae := (ae.ai U2).aG U5 dH
 replace ay := U5.aj (U2.af ay) jd
 replace ag := U5.aj (U2.af ag) eY
 replace hF := (hF.go0 U2).go1 U5 eU
 rw [Gs.ah4 (f := f.m) (by assumption)]; exact ⟨_, rfl, rfl, bp, A, n, cp, ay, ag, ae, hn, .inl rfl, (fun k hk => .inl hk), hF⟩
 refine aF ?_
 refine az (cu _ _ _ _ _) (fun h7 => ?_) (fun h7 => ?_)
 refine aK ?_
 refine Z.f 1 ?_
 refine Z.l ah ?_
 refine aB (aaJ hwf.2.1) (fun w8 U8 => ?_)
 replace ay := U8.af (U2.af ay)
 refine aN (UX ay hS.1.1 hS.1.2 (j := if f.op = 0 then 0 else 1) (by split <;> simp)) (fun v9 w9 D9 => ?_)
 obtain ⟨bp2, g2, N9, gbp2, uy, jS, U9⟩ := D9
 replace ax := U8.af ax
 have Ap : b2 ≠ bp2 := by have := ak ax; omega
 replace hF := (hF.go0 U2).go0 U8
 have Dj : w.heap.size ≤ bp2 := by have := hF.size; omega
 replace jS := jS.mono (B' := w.heap.size) hF.size
 replace ay := N9
 replace hF := hF.go U9 (fun i _ h => .inr h)
 refine au (bG (l := [(0, 1), (1, 1), (2, 1), (3, 1)]) (z := #[Z.u 0, .bool false, .bool false, Z.i 0]) (cs := Gs.re Gs.qi) (by kernel_rfl) (by rfl)) ?_
 replace ax := U9.aj ax (Ne.symm jd)
 refine Z.t 4 ((Gs.re Gs.qi).toArray) (by (simp [Value.cells, Value.oneCell', Gs.cv, Gs.fv, Gs.ie, Gs.pe, Gs.oe, Gs.cZ, Gs.fe, Gs.fE, Gs.ce, Gs.dZ, Gs.re]; done)) ax (fun nT ax _ bJ => ?_)
 replace jS := jS.aG bJ (Own.aS jS (by assumption) (by decide))
 refine Z.a 4 ax ?_
 replace ay := bJ.aj ay jd
 replace uy := bJ.aj uy (Ne.symm Ap)
 replace hF := hF.go1 bJ eU
 rw [Gs.ah5 (f := f.m) (by assumption)]; exact ⟨_, rfl, rfl, bp2, some ⟨g2, 0, none⟩, _, _, ay, uy, jS.mono hB0, rfl, .inr Dj, (fun k hk => .inr (Own.ge jS hk).1), hF⟩
 refine aF ?_
 refine Z.f 2 ?_
 refine Z.b 5 ((Gs.ce f.c none 0 0).toArray) ah ?_
 replace gQ := (gQ.ai U1).ai U2
 replace ae := ae.ai U2
 replace ay := U2.af ay
 replace ag := U2.af ag
 replace hF := hF.go0 U2
 refine aN (QK ay ag ae hS (by have := hF.size; omega) (Gs.iq.Xb gQ rfl) hwf.2.2 hlx (Gs.aaK (x := f) rfl nax1) (Gs.aaK (x := f) rfl nax2) (Gs.aaK (x := f) rfl nax3) (fun h => hin.elim (by assumption) (fun h2 => h2.elim (by assumption) (fun h3 => by unfold Gs.tq Gs.o6 at h3; omega)))) (fun v13 uX D13 => ?_)
 have aJ := ae
 have qF13 := hF.size
 have qF24 := hF.size
 obtain ⟨rfl, bp24, A24, n24, cp24, ay, Fp, zI, hn24, hb24, ho24, dE⟩ := D13
 replace ax := dE.get ax (fun hs => by rcases hs with (hs | hs) | hs <;> first | (first | exact Own.aS aJ ax (by decide) _ hs rfl | (have := Own.ge aJ hs; omega)) | (exact absurd hs (Ne.symm eY)) | (exact absurd hs (Ne.symm jd)))
 replace hF := hF.go dE (fun i hi hs => by exact hs)
 clear aJ
 refine Z.n ((Gs.re Gs.qi).toArray) (fun b14 sJ e14 dN _ dm => ?_)
 have vU : b2 ≠ b14 := by have := ak ax; omega
 have Ar : bs ≠ b14 := by have := ak ay; omega
 have KR : bp24 ≠ b14 := by have := ak Fp; omega
 have Fq := zI.apart e14
 have pM : w.heap.size ≤ b14 := by have := hF.size; omega
 refine Z.t 4 ((Gs.re (Gs.o7 s f.c.m).2).toArray) (by (simp [Value.cells, Value.oneCell', Gs.cv, Gs.fv, Gs.ie, Gs.pe, Gs.oe, Gs.cZ, Gs.fe, Gs.fE, Gs.ce, Gs.dZ, Gs.re]; done)) dN (fun tX dN _ bU => ?_)
 refine Z.f 0 ?_
 refine Z.s dN (fun w16 dN _ bQ => ?_)
 refine Z.b 4 _ dN ?_
 replace ax := bQ.aj (bU.aj (dm.af ax) vU) vU
 refine ig (n := 4) (by kernel_rfl) (by rfl) (by (simp [Value.cells, Value.oneCell', Gs.cv, Gs.fv, Gs.ie, Gs.pe, Gs.oe, Gs.cZ, Gs.fe, Gs.fE, Gs.ce, Gs.dZ, Gs.re]; done)) ax (Nat.le_of_ble_eq_true rfl) (by (simp; rfl)) (fun uY ax _ dh => ?_)
 replace zI := ((zI.ai dm).aG bU Fq).aG bQ Fq
 replace zI := zI.aG dh (Own.aS zI (by assumption) (by decide))
 replace Fp := bQ.aj (bU.aj (dm.af Fp) KR) KR
 replace Fp := dh.aj Fp (by exact dP (by assumption) (by assumption) (by decide))
 refine Z.a 4 ax ?_
 replace ay := dh.aj (bQ.aj (bU.aj (dm.af ay) Ar) Ar) jd
 replace hF := (((hF.go0 dm).go1 bU pM).go1 bQ pM).go1 dh eU
 rw [Gs.ah6 (f := f.m) (by assumption) (by assumption)]; exact ⟨_, rfl, rfl, bp24, A24, n24, cp24, ay, Fp, zI, hn24, hb24.imp id (fun h => by omega), (fun k hk => (ho24 k hk).imp id (fun h => by omega)), hF⟩
set_option maxHeartbeats 2000000 in
theorem Va {s : Gs.iV} {A : Option Addr} {n cp bp bs B0 : Nat} {w : World} (ay : Z.h w bs #[Z.i s.r0, Z.i s.c0, Z.i s.r1, Z.i s.c1, Z.i s.wh, Z.p bp] 89) (ag : Z.h w bp #[Z.i s.r, Z.i s.c, .slice A n cp, Z.i s.cur] 91) (ae : Own B0 w 37 5 (.slice A n cp) (rows Gs.cv s.cs)) (hS : Gs.Sw n s) (hB0 : B0 ≤ w.heap.size) {x : Gs.pJ} {fs : List Gs.Fd} {fA : Option Addr} {fc : Nat} (kJ : Rd w fA (rows Gs.fe fs)) (iM : Gs.iq w fs) (hfw : Gs.BU fs) (hfl : Gs.XU fs) (hfn : fs.length ≤ 100000) (nf1 : rows Gs.fe fs = [] ∨ ∀ k, fC fA k → ¬ aH (.slice A n cp) k) (nf2 : rows Gs.fe fs = [] ∨ ∀ k, fC fA k → k ≠ bp) (nf3 : rows Gs.fe fs = [] ∨ ∀ k, fC fA k → k ≠ bs) (ng1 : fs = [] ∨ ∀ k, Gs.lg fs k → ¬ aH (.slice A n cp) k) (ng2 : fs = [] ∨ ∀ k, Gs.lg fs k → k ≠ bp) (ng3 : fs = [] ∨ ∀ k, Gs.lg fs k → k ≠ bs)  :
    oX 110 #[Z.p bs, .agg (Gs.ce x fA fs.length fc).toArray] w (XQ (Gs.lu x.e (Gs.qR fs) s Gs.qi).1 (Gs.lu x.e (Gs.qR fs) s Gs.qi).2 A n cp bp bs B0 w) := by
 refine ZH.calls ?_
 unfold ZH
 have hW := hS.2
 obtain ⟨hn, hcw, hcu, hp, hN, hb⟩ := id hW
 have hfml := Gs.Xg fs
 have hF : aA (fun k => (aH (.slice A n cp) k ∨ k = bp) ∨ k = bs) w w := Fr.refl _ _ _
 refine Z.x ((Gs.ce x fA fs.length fc).toArray) (fun b1 w1 e1 ah _ U1 => ?_)
 refine Z.n ((Gs.re Gs.qi).toArray) (fun b2 w2 e2 ax _ U2 => ?_)
 replace ay := U1.af ay
 have jd : bs ≠ b2 := by have := ak ay; omega
 replace hF := hF.go0 U1
 have eU : w.heap.size ≤ b2 := by have := hF.size; omega
 refine Z.n ((Gs.re Gs.qi).toArray) (fun b3 w3 e3 bF _ U3 => ?_)
 replace ay := U2.af ay
 have qf : bs ≠ b3 := by have := ak ay; omega
 replace kJ := (kJ.ai U1).ai U2
 have rM := kJ.apart e3
 replace iM := (iM.ai U1).ai U2
 have rO := iM.apart e3
 replace ah := U2.af ah
 have lU : b1 ≠ b3 := by have := ak ah; omega
 have qg : b2 ≠ b3 := by have := ak ax; omega
 replace hF := hF.go0 U2
 have jD : w.heap.size ≤ b3 := by have := hF.size; omega
 refine bP (fun g w' => ∃ (s1 : Gs.iV) (o1 : Gs.wz) (bp1 : Nat) (A1 : Option Addr) (n1 : Nat) (cp1 : Nat), ((Gs.lu x.e (Gs.qR fs) s Gs.qi) = (s1, if x.e = 0 then o1 else Gs.xB x.e)) ∧ (Gs.Sw n1 s1) ∧ (bp1 = bp ∨ w.heap.size ≤ bp1) ∧ (∀ k, aH (.slice A1 n1 cp1) k → aH (.slice A n cp) k ∨ w.heap.size ≤ k) ∧ (Z.h w' bs #[Z.i s1.r0, Z.i s1.c0, Z.i s1.r1, Z.i s1.c1, Z.i s1.wh, Z.p bp1] 89) ∧ (Z.h w' bp1 #[Z.i s1.r, Z.i s1.c, .slice A1 n1 cp1, Z.i s1.cur] 91) ∧ (Own B0 w' 37 5 (.slice A1 n1 cp1) (rows Gs.cv s1.cs)) ∧ (Z.h w' b3 ((Gs.re o1).toArray) 66) ∧ (Z.h w' b2 ((Gs.re Gs.qi).toArray) 66) ∧ (Z.h w' b1 ((Gs.ce x fA fs.length fc).toArray) 124) ∧ (aA (fun k => (aH (.slice A n cp) k ∨ k = bp) ∨ k = bs) w w')) (fun J1 hJ1 => ?_) (fun gJ1 jK hI => ?_)
 refine Z.f 4 ?_
 replace ah := U3.af ah
 refine Z.l ah ?_
 refine au (gK (by kernel_rfl) _ _ _) ?_
 refine eF (fun g w' => ∃ (k : Nat) (s1 : Gs.iV) (o1 : Gs.wz) (bp1 : Nat) (A1 : Option Addr) (n1 : Nat) (cp1 : Nat), (g 12 = Z.i (k : Int)) ∧ (k ≤ fs.length) ∧ ((Gs.lu x.e (Gs.qR fs) s Gs.qi) = Gs.lu x.e ((Gs.qR fs).drop k) s1 o1) ∧ (Gs.Sw n1 s1) ∧ (bp1 = bp ∨ w.heap.size ≤ bp1) ∧ (∀ k, aH (.slice A1 n1 cp1) k → aH (.slice A n cp) k ∨ w.heap.size ≤ k) ∧ (rows Gs.fe fs = [] ∨ ∀ k, fC fA k → ¬ aH (.slice A1 n1 cp1) k) ∧ (rows Gs.fe fs = [] ∨ ∀ k, fC fA k → k ≠ bp1) ∧ (fs = [] ∨ ∀ k, Gs.lg fs k → ¬ aH (.slice A1 n1 cp1) k) ∧ (fs = [] ∨ ∀ k, Gs.lg fs k → k ≠ bp1) ∧ (Z.h w' bs #[Z.i s1.r0, Z.i s1.c0, Z.i s1.r1, Z.i s1.c1, Z.i s1.wh, Z.p bp1] 89) ∧ (Z.h w' bp1 #[Z.i s1.r, Z.i s1.c, .slice A1 n1 cp1, Z.i s1.cur] 91) ∧ (Own B0 w' 37 5 (.slice A1 n1 cp1) (rows Gs.cv s1.cs)) ∧ (Z.h w' b3 ((Gs.re o1).toArray) 66) ∧ (Z.h w' b2 ((Gs.re Gs.qi).toArray) 66) ∧ (Z.h w' b1 ((Gs.ce x fA fs.length fc).toArray) 124) ∧ (Rd w' fA (rows Gs.fe fs)) ∧ (Gs.iq w' fs) ∧ (aA (fun k => (aH (.slice A n cp) k ∨ k = bp) ∨ k = bs) w w')) (fun g w' => fs.length - (RowKit.intOf (g 12)).toNat) ?_ (fun g2 qI hI => ?_)
 replace ae := ((ae.ai U1).ai U2).ai U3
 replace ag := U3.af (U2.af (U1.af ag))
 replace kJ := kJ.ai U3
 replace iM := iM.ai U3
 replace ay := U3.af ay
 replace ax := U3.af ax
 replace hF := hF.go0 U3
 exact ⟨0, s, Gs.qi, bp, A, n, cp, (by rfl), Nat.zero_le _, rfl, hS, (.inl rfl), (fun k hk => .inl hk), nf1, nf2, ng1, ng2, ay, ag, ae, bF, ax, ah, kJ, iM, hF⟩
 replace kJ := kJ.ai U3
 replace iM := iM.ai U3
 replace ay := U3.af ay
 replace ax := U3.af ax
 replace hF := hF.go0 U3
 obtain ⟨k, s1, o1, bp1, A1, n1, cp1, g12, hk, hinv, hS1, hbp, hov, nf1, nf2, ng1, ng2, ay, nY, jr, bF, ax, ah, kJ, iM, hF⟩ := hI
 rw [g12]
 refine az (lss _ _ _ _) (fun h4 => ?_) (fun h4 => ?_)
 refine aK ?_
 refine uh Gs.Bj (by kernel_rfl) (by kernel_rfl) kJ (by rfl) (by omega) (by omega) (fun x5 hx5 => ?_)
 simp only [Int.toNat_natCast] at hx5
 refine Z.n ((Gs.fe Gs.uC).toArray) (fun b6 w6 e6 oq _ U6 => ?_)
 have aey : bs ≠ b6 := by have := ak ay; omega
 have acI : bp1 ≠ b6 := by have := ak nY; omega
 have Vb := jr.apart e6
 have LX : b3 ≠ b6 := by have := ak bF; omega
 have CV : b2 ≠ b6 := by have := ak ax; omega
 have Gu : b1 ≠ b6 := by have := ak ah; omega
 have acJ := kJ.apart e6
 have IQ := iM.apart e6
 have xG : w.heap.size ≤ b6 := by have := hF.size; omega
 refine Z.t 7 ((Gs.fe x5).toArray) (by (simp [Value.cells, Value.oneCell', Gs.cv, Gs.fv, Gs.ie, Gs.pe, Gs.oe, Gs.cZ, Gs.fe, Gs.fE, Gs.ce, Gs.dZ, Gs.re]; done)) oq (fun w7 oq _ U7 => ?_)
 refine Z.b 7 ((Gs.fe x5).toArray) oq ?_
 replace jr := (jr.ai U6).aG U7 Vb
 replace iM := (iM.ai U6).aG U7 IQ
 replace ay := U7.aj (U6.af ay) aey
 replace nY := U7.aj (U6.af nY) acI
 replace hF := (hF.go0 U6).go1 U7 xG
 refine aN (WE ay nY jr hS1 (by have := hF.size; omega) (iM.get hx5) (hfw.get hx5) (hfl.get hx5).1 (hfl.get hx5).2 (Gs.Vd ng1 hx5) (Gs.Vd ng2 hx5) (Gs.Vd ng3 hx5)) (fun v8 w8 D8 => ?_)
 have qO := jr
 have qF8 := hF.size
 have ako := hF.size
 obtain ⟨rfl, bp18, A18, n18, cp18, ay, dS, di, hn18, hb18, ho18, U8⟩ := D8
 replace kJ := (kJ.ai U6).aG U7 acJ
 have nf1b := agJ (S' := w7) nf1 kJ ho18
 have nf2b := Gs.akp nf2 kJ.lt hb18
 have ng1b := Gs.Td (S' := w7) ng1 iM ho18
 have ng2b := Gs.amu ng2 iM hb18
 have hbp2 : bp18 = bp ∨ w.heap.size ≤ bp18 := hb18.elim (fun h => hbp.elim (fun h2 => .inl (h.trans h2)) (fun h2 => .inr (by omega))) (fun h => .inr (by omega))
 have hov2 : ∀ k, aH (.slice A18 n18 cp18) k → aH (.slice A n cp) k ∨ w.heap.size ≤ k := fun k hk => (ho18 k hk).elim (hov k) (fun h => .inr (by omega))
 have hS2 : Gs.Sw n18 (Gs.fQ s1 x5.m).1 := hn18 ▸ hS1.field (Gs.sQ.of (hfw.get hx5).2.2.2.2)
 replace bF := U7.aj (U6.af bF) LX
 replace bF := U8.get bF (fun hs => by rcases hs with (hs | hs) | hs <;> first | (first | exact Own.aS qO bF (by decide) _ hs rfl | (have := Own.ge qO hs; omega)) | (exact absurd hs (by first | omega | exact dP (by assumption) (by assumption) (by decide))))
 replace ax := U7.aj (U6.af ax) CV
 replace ax := U8.get ax (fun hs => by rcases hs with (hs | hs) | hs <;> first | (first | exact Own.aS qO ax (by decide) _ hs rfl | (have := Own.ge qO hs; omega)) | (exact absurd hs (by first | omega | exact dP (by assumption) (by assumption) (by decide))))
 replace ah := U7.aj (U6.af ah) Gu
 replace ah := U8.get ah (fun hs => by rcases hs with (hs | hs) | hs <;> first | (first | exact Own.aS qO ah (by decide) _ hs rfl | (have := Own.ge qO hs; omega)) | (exact absurd hs (by first | omega | exact dP (by assumption) (by assumption) (by decide))))
 replace kJ := kJ.dY U8 (nf1.elim .inl fun h0 => nf2.elim .inl fun h1 => nf3.elim .inl fun h2 => .inr fun k hk hs => by rcases hs with (hs | hs) | hs <;> first | exact h0 k hk hs | exact h1 k hk hs | exact h2 k hk hs)
 replace iM := iM.dY U8 (ng1.elim .inl fun h0 => ng2.elim .inl fun h1 => ng3.elim .inl fun h2 => .inr fun k hk hs => by rcases hs with (hs | hs) | hs <;> first | exact h0 k hk hs | exact h1 k hk hs | exact h2 k hk hs)
 replace hF := hF.go U8 (fun i hi hs => Or.elim hs (fun hs => Or.elim hs (fun hs => Or.elim (hov i hs) (fun h => .inl (.inl h)) (fun h => absurd hi (by omega))) (fun hs => Or.elim hbp (fun h => .inl (.inr (Eq.trans hs h))) (fun h => absurd hi (by have e : i = bp1 := hs; omega)))) (fun hs => .inr hs))
 clear qO
 refine Z.n ((Gs.re Gs.qi).toArray) (fun b9 w9 e9 jy _ U9 => ?_)
 have Dk : b3 ≠ b9 := by have := ak bF; omega
 have Cf : b2 ≠ b9 := by have := ak ax; omega
 have LY : b1 ≠ b9 := by have := ak ah; omega
 have Jq := kJ.apart e9
 have Ac := iM.apart e9
 have GU : bs ≠ b9 := by have := ak ay; omega
 have BG : bp18 ≠ b9 := by have := ak dS; omega
 have xM := di.apart e9
 have qj : w.heap.size ≤ b9 := by have := hF.size; omega
 refine Z.t 4 ((Gs.re (Gs.fQ s1 x5.m).2).toArray) (by (simp [Value.cells, Value.oneCell', Gs.cv, Gs.fv, Gs.ie, Gs.pe, Gs.oe, Gs.cZ, Gs.fe, Gs.fE, Gs.ce, Gs.dZ, Gs.re]; done)) jy (fun w10 jy _ aW => ?_)
 refine Z.f 3 ?_
 refine Z.l jy ?_
 refine az (jQ _ _ _ _ _) (fun h11 => ?_) (fun h11 => ?_)
 refine aK ?_
 refine Z.f 3 ?_
 refine Z.l jy ?_
 refine au (bG (l := [(0, 1), (1, 1), (2, 1), (3, 1)]) (z := #[Z.u 0, .bool false, .bool false, Z.i 0]) (cs := Gs.re (Gs.xB (Gs.fQ s1 x5.m).2.er)) (by kernel_rfl) (by rfl)) ?_
 replace ax := aW.aj (U9.af ax) Cf
 refine Z.t 4 ((Gs.re (Gs.xB (Gs.fQ s1 x5.m).2.er)).toArray) (by (simp [Value.cells, Value.oneCell', Gs.cv, Gs.fv, Gs.ie, Gs.pe, Gs.oe, Gs.cZ, Gs.fe, Gs.fE, Gs.ce, Gs.dZ, Gs.re]; done)) ax (fun uX ax _ dE => ?_)
 replace di := (di.ai U9).aG aW xM
 replace di := di.aG dE (Own.aS di (by assumption) (by decide))
 replace dS := aW.aj (U9.af dS) BG
 replace dS := dE.aj dS (by exact dP (by assumption) (by assumption) (by decide))
 refine Z.a 4 ax ?_
 replace ay := dE.aj (aW.aj (U9.af ay) GU) jd
 replace hF := ((hF.go0 U9).go1 aW qj).go1 dE eU
 rw [Gs.WF hinv (Gs.Fv hx5) (by assumption)]; exact ⟨_, rfl, rfl, bp18, A18, n18, cp18, ay, dS, di, hS2.2.1, hbp2, hov2, hF⟩
 refine aF ?_
 refine bP (fun g w' => ((Gs.fQ s1 x5.m).2.er = 0) ∧ (Z.h w' bs #[Z.i (Gs.fQ s1 x5.m).1.r0, Z.i (Gs.fQ s1 x5.m).1.c0, Z.i (Gs.fQ s1 x5.m).1.r1, Z.i (Gs.fQ s1 x5.m).1.c1, Z.i (Gs.fQ s1 x5.m).1.wh, Z.p bp18] 89) ∧ (Z.h w' bp18 #[Z.i (Gs.fQ s1 x5.m).1.r, Z.i (Gs.fQ s1 x5.m).1.c, .slice A18 n18 cp18, Z.i (Gs.fQ s1 x5.m).1.cur] 91) ∧ (Own B0 w' 37 5 (.slice A18 n18 cp18) (rows Gs.cv (Gs.fQ s1 x5.m).1.cs)) ∧ (Z.h w' b3 ((Gs.re ⟨if o1.rep = 0 then (Gs.fQ s1 x5.m).2.rep else o1.rep, o1.rs, o1.al, o1.er⟩).toArray) 66) ∧ (Z.h w' b9 ((Gs.re (Gs.fQ s1 x5.m).2).toArray) 66) ∧ (Z.h w' b2 ((Gs.re Gs.qi).toArray) 66) ∧ (Z.h w' b1 ((Gs.ce x fA fs.length fc).toArray) 124) ∧ (Rd w' fA (rows Gs.fe fs)) ∧ (Gs.iq w' fs) ∧ (aA (fun k => (aH (.slice A n cp) k ∨ k = bp) ∨ k = bs) w w')) (fun J3 hJ3 => ?_) (fun gJ3 KN hI => ?_)
 refine Z.f 0 ?_
 replace bF := aW.aj (U9.af bF) Dk
 refine Z.l bF ?_
 refine az (cu _ _ _ _ _) (fun h15 => ?_) (fun h15 => ?_)
 refine aK ?_
 refine Z.f 0 ?_
 refine Z.l jy ?_
 refine Z.f 0 ?_
 refine Z.s bF (fun w16 bF _ bQ => ?_)
 replace di := (di.ai U9).aG aW xM
 replace di := di.aG bQ (Own.aS di (by assumption) (by decide))
 replace dS := aW.aj (U9.af dS) BG
 replace dS := bQ.aj dS (by exact dP (by assumption) (by assumption) (by decide))
 refine hJ3 _ _ ?_
 replace kJ := ((kJ.ai U9).aG aW Jq).aG bQ rM
 replace iM := ((iM.ai U9).aG aW Ac).aG bQ rO
 replace ax := bQ.aj (aW.aj (U9.af ax) Cf) qg
 replace ah := bQ.aj (aW.aj (U9.af ah) LY) lU
 replace ay := bQ.aj (aW.aj (U9.af ay) GU) qf
 replace hF := ((hF.go0 U9).go1 aW qj).go1 bQ jD
 replace jy := bQ.aj jy (Ne.symm Dk)
 exact ⟨(Classical.not_not.1 (by assumption)), ay, dS, di, (by (rw [if_pos (by assumption)]; exact bF)), jy, ax, ah, kJ, iM, hF⟩
 refine aF ?_
 refine hJ3 _ _ ?_
 replace kJ := (kJ.ai U9).aG aW Jq
 replace iM := (iM.ai U9).aG aW Ac
 replace di := (di.ai U9).aG aW xM
 replace ax := aW.aj (U9.af ax) Cf
 replace ah := aW.aj (U9.af ah) LY
 replace ay := aW.aj (U9.af ay) GU
 replace dS := aW.aj (U9.af dS) BG
 replace hF := (hF.go0 U9).go1 aW qj
 exact ⟨(Classical.not_not.1 (by assumption)), ay, dS, di, (by (rw [if_neg (by assumption)]; exact bF)), jy, ax, ah, kJ, iM, hF⟩
 replace kJ := (kJ.ai U9).aG aW Jq
 replace iM := (iM.ai U9).aG aW Ac
 replace di := (di.ai U9).aG aW xM
 replace bF := aW.aj (U9.af bF) Dk
 replace ax := aW.aj (U9.af ax) Cf
 replace ah := aW.aj (U9.af ah) LY
 replace ay := aW.aj (U9.af ay) GU
 replace dS := aW.aj (U9.af dS) BG
 replace hF := (hF.go0 U9).go1 aW qj
 obtain ⟨he18, ay, dS, di, bF, jy, ax, ah, kJ, iM, hF⟩ := hI
 refine dK (S := (· = b3)) (fun uY dh => ?_)
 refine Z.g 1 ?_
 replace bF := dh.af bF
 refine aaL (fun w' hw' => by have bF := (Fr.jk hw').af bF; exact (kT (by kernel_rfl) bF (by rfl))) (fun h18 => ?_) (fun h18 => ?_)
 refine jm (jm (kU ?_))
 refine Z.g 2 ?_
 refine aaL (fun w' hw' => by have bF := (Fr.jk hw').af bF; exact (kT (by kernel_rfl) bF (by rfl))) (fun h19 => ?_) (fun h19 => ?_)
 refine jm (jm (kU ?_))
 refine Z.g 1 ?_
 refine aI (fun wY dR => ?_)
 refine jo ?_
 replace bF := dR.af bF
 refine Z.s bF (fun BQ bF _ dV => ?_)
 replace di := (di.ai dh).ai dR
 replace di := di.aG dV (Own.aS di (by assumption) (by decide))
 replace dS := dR.af (dh.af dS)
 replace dS := dV.aj dS (by exact dP (by assumption) (by assumption) (by decide))
 refine ⟨dV, ?_⟩
 refine Z.g 2 ?_
 refine aI (fun Hy gY => ?_)
 replace bF := gY.af bF
 refine Z.s bF (fun ES bF _ jg => ?_)
 replace di := di.ai gY
 replace di := di.aG jg (Own.aS di (by assumption) (by decide))
 replace dS := gY.af dS
 replace dS := jg.aj dS (by exact dP (by assumption) (by assumption) (by decide))
 refine aI (fun Ql jH => ?_)
 refine au (dL _ (by omega)) ?_
 replace kJ := (((((kJ.ai dh).ai dR).aG dV rM).ai gY).aG jg rM).ai jH
 replace iM := (((((iM.ai dh).ai dR).aG dV rO).ai gY).aG jg rO).ai jH
 replace ay := jH.af (jg.aj (gY.af (dV.aj (dR.af (dh.af ay)) qf)) qf)
 replace ax := jH.af (jg.aj (gY.af (dV.aj (dR.af (dh.af ax)) qg)) qg)
 replace ah := jH.af (jg.aj (gY.af (dV.aj (dR.af (dh.af ah)) lU)) lU)
 replace hF := (((((hF.go0 dh).go0 dR).go1 dV jD).go0 gY).go1 jg jD).go0 jH
 replace di := di.ai jH
 replace dS := jH.af dS
 replace bF := jH.af bF
 exact ⟨⟨k + 1, (Gs.fQ s1 x5.m).1, (Gs.mrg o1 (Gs.fQ s1 x5.m).2), bp18, A18, n18, cp18, (by rfl), by omega, (Gs.yP hinv (Gs.Fv hx5) he18), hS2, hbp2, hov2, nf1b, nf2b, ng1b, ng2b, ay, dS, di, (by (rw [Gs.akq (by assumption) (by assumption)]; exact bF)), ax, ah, kJ, iM, hF⟩, cnt_lt (by rfl) rfl (by omega)⟩
 refine eP ?_
 refine Z.g 2 ?_
 refine eP ?_
 replace jy := dh.af jy
 refine bI (fun w' hw' => by have jy := hw'.aj jy (Ne.symm Dk); exact (kT (by kernel_rfl) jy (by rfl))) ?_
 refine jl ?_
 refine Z.g 1 ?_
 refine aI (fun Hz gz => ?_)
 refine jo ?_
 replace bF := gz.af bF
 refine Z.s bF (fun MX bF _ je => ?_)
 replace di := (di.ai dh).ai gz
 replace di := di.aG je (Own.aS di (by assumption) (by decide))
 replace dS := gz.af (dh.af dS)
 replace dS := je.aj dS (by exact dP (by assumption) (by assumption) (by decide))
 refine ⟨je, ?_⟩
 refine Z.g 2 ?_
 refine aI (fun IV gB => ?_)
 replace bF := gB.af bF
 refine Z.s bF (fun Xh bF _ jO => ?_)
 replace di := di.ai gB
 replace di := di.aG jO (Own.aS di (by assumption) (by decide))
 replace dS := gB.af dS
 replace dS := jO.aj dS (by exact dP (by assumption) (by assumption) (by decide))
 refine aI (fun Xd kM => ?_)
 refine au (dL _ (by omega)) ?_
 replace kJ := (((((kJ.ai dh).ai gz).aG je rM).ai gB).aG jO rM).ai kM
 replace iM := (((((iM.ai dh).ai gz).aG je rO).ai gB).aG jO rO).ai kM
 replace ay := kM.af (jO.aj (gB.af (je.aj (gz.af (dh.af ay)) qf)) qf)
 replace ax := kM.af (jO.aj (gB.af (je.aj (gz.af (dh.af ax)) qg)) qg)
 replace ah := kM.af (jO.aj (gB.af (je.aj (gz.af (dh.af ah)) lU)) lU)
 replace hF := (((((hF.go0 dh).go0 gz).go1 je jD).go0 gB).go1 jO jD).go0 kM
 replace di := di.ai kM
 replace dS := kM.af dS
 replace bF := kM.af bF
 exact ⟨⟨k + 1, (Gs.fQ s1 x5.m).1, (Gs.mrg o1 (Gs.fQ s1 x5.m).2), bp18, A18, n18, cp18, (by rfl), by omega, (Gs.yP hinv (Gs.Fv hx5) he18), hS2, hbp2, hov2, nf1b, nf2b, ng1b, ng2b, ay, dS, di, (by (rw [Gs.akr (by assumption) (by assumption)]; exact bF)), ax, ah, kJ, iM, hF⟩, cnt_lt (by rfl) rfl (by omega)⟩
 refine eP ?_
 refine Z.g 1 ?_
 refine eP ?_
 replace jy := dh.af jy
 refine bI (fun w' hw' => by have jy := (Fr.jk hw').af jy; exact (kT (by kernel_rfl) jy (by rfl))) ?_
 refine jl ?_
 refine Z.g 2 ?_
 refine aaL (fun w' hw' => by have bF := (Fr.jk hw').af bF; exact (kT (by kernel_rfl) bF (by rfl))) (fun h30 => ?_) (fun h30 => ?_)
 refine jm (jm (kU ?_))
 refine Z.g 1 ?_
 refine aI (fun w31 pG => ?_)
 refine jo ?_
 replace bF := pG.af bF
 refine Z.s bF (fun w32 bF _ lZ => ?_)
 replace di := (di.ai dh).ai pG
 replace di := di.aG lZ (Own.aS di (by assumption) (by decide))
 replace dS := pG.af (dh.af dS)
 replace dS := lZ.aj dS (by exact dP (by assumption) (by assumption) (by decide))
 refine ⟨lZ, ?_⟩
 refine Z.g 2 ?_
 refine aI (fun w33 vz => ?_)
 replace bF := vz.af bF
 refine Z.s bF (fun Xa bF _ oM => ?_)
 replace di := di.ai vz
 replace di := di.aG oM (Own.aS di (by assumption) (by decide))
 replace dS := vz.af dS
 replace dS := oM.aj dS (by exact dP (by assumption) (by assumption) (by decide))
 refine aI (fun w35 pV => ?_)
 refine au (dL _ (by omega)) ?_
 replace kJ := (((((kJ.ai dh).ai pG).aG lZ rM).ai vz).aG oM rM).ai pV
 replace iM := (((((iM.ai dh).ai pG).aG lZ rO).ai vz).aG oM rO).ai pV
 replace ay := pV.af (oM.aj (vz.af (lZ.aj (pG.af (dh.af ay)) qf)) qf)
 replace ax := pV.af (oM.aj (vz.af (lZ.aj (pG.af (dh.af ax)) qg)) qg)
 replace ah := pV.af (oM.aj (vz.af (lZ.aj (pG.af (dh.af ah)) lU)) lU)
 replace hF := (((((hF.go0 dh).go0 pG).go1 lZ jD).go0 vz).go1 oM jD).go0 pV
 replace di := di.ai pV
 replace dS := pV.af dS
 replace bF := pV.af bF
 exact ⟨⟨k + 1, (Gs.fQ s1 x5.m).1, (Gs.mrg o1 (Gs.fQ s1 x5.m).2), bp18, A18, n18, cp18, (by rfl), by omega, (Gs.yP hinv (Gs.Fv hx5) he18), hS2, hbp2, hov2, nf1b, nf2b, ng1b, ng2b, ay, dS, di, (by (rw [Gs.aks (by assumption) (by assumption)]; exact bF)), ax, ah, kJ, iM, hF⟩, cnt_lt (by rfl) rfl (by omega)⟩
 refine eP ?_
 refine Z.g 2 ?_
 refine eP ?_
 refine bI (fun w' hw' => by have jy := hw'.aj jy (Ne.symm Dk); exact (kT (by kernel_rfl) jy (by rfl))) ?_
 refine jl ?_
 refine Z.g 1 ?_
 refine aI (fun w36 oO => ?_)
 refine jo ?_
 replace bF := oO.af bF
 refine Z.s bF (fun w37 bF _ pK => ?_)
 replace di := (di.ai dh).ai oO
 replace di := di.aG pK (Own.aS di (by assumption) (by decide))
 replace dS := oO.af (dh.af dS)
 replace dS := pK.aj dS (by exact dP (by assumption) (by assumption) (by decide))
 refine ⟨pK, ?_⟩
 refine Z.g 2 ?_
 refine aI (fun w38 wR => ?_)
 replace bF := wR.af bF
 refine Z.s bF (fun w39 bF _ ve => ?_)
 replace di := di.ai wR
 replace di := di.aG ve (Own.aS di (by assumption) (by decide))
 replace dS := wR.af dS
 replace dS := ve.aj dS (by exact dP (by assumption) (by assumption) (by decide))
 refine aI (fun w40 nD => ?_)
 refine au (dL _ (by omega)) ?_
 replace kJ := (((((kJ.ai dh).ai oO).aG pK rM).ai wR).aG ve rM).ai nD
 replace iM := (((((iM.ai dh).ai oO).aG pK rO).ai wR).aG ve rO).ai nD
 replace ay := nD.af (ve.aj (wR.af (pK.aj (oO.af (dh.af ay)) qf)) qf)
 replace ax := nD.af (ve.aj (wR.af (pK.aj (oO.af (dh.af ax)) qg)) qg)
 replace ah := nD.af (ve.aj (wR.af (pK.aj (oO.af (dh.af ah)) lU)) lU)
 replace hF := (((((hF.go0 dh).go0 oO).go1 pK jD).go0 wR).go1 ve jD).go0 nD
 replace di := di.ai nD
 replace dS := nD.af dS
 replace bF := nD.af bF
 exact ⟨⟨k + 1, (Gs.fQ s1 x5.m).1, (Gs.mrg o1 (Gs.fQ s1 x5.m).2), bp18, A18, n18, cp18, (by rfl), by omega, (Gs.yP hinv (Gs.Fv hx5) he18), hS2, hbp2, hov2, nf1b, nf2b, ng1b, ng2b, ay, dS, di, (by (rw [Gs.akt (by assumption) (by assumption)]; exact bF)), ax, ah, kJ, iM, hF⟩, cnt_lt (by rfl) rfl (by omega)⟩
 refine aF ?_
 refine hJ1 _ _ ?_
 exact ⟨_, _, _, _, _, _, (Gs.WG hinv (by omega)), hS1, hbp, hov, ay, nY, jr, bF, ax, ah, hF⟩
 replace ay := U3.af ay
 replace ah := U3.af ah
 replace ax := U3.af ax
 replace hF := hF.go0 U3
 obtain ⟨s1, o1, bp1, A1, n1, cp1, hfin, hS1, hbp, hov, ay, nY, jr, bF, ax, ah, hF⟩ := hI
 refine Z.f 3 ?_
 refine Z.l ah ?_
 refine az (jQ _ _ _ _ _) (fun h41 => ?_) (fun h41 => ?_)
 refine aK ?_
 refine Z.f 3 ?_
 refine Z.l ah ?_
 refine au (bG (l := [(0, 1), (1, 1), (2, 1), (3, 1)]) (z := #[Z.u 0, .bool false, .bool false, Z.i 0]) (cs := Gs.re (Gs.xB x.e)) (by kernel_rfl) (by rfl)) ?_
 refine Z.t 4 ((Gs.re (Gs.xB x.e)).toArray) (by (simp [Value.cells, Value.oneCell', Gs.cv, Gs.fv, Gs.ie, Gs.pe, Gs.oe, Gs.cZ, Gs.fe, Gs.fE, Gs.ce, Gs.dZ, Gs.re]; done)) ax (fun w43 ax _ oW => ?_)
 replace jr := jr.aG oW (Own.aS jr (by assumption) (by decide))
 replace nY := oW.aj nY (by exact dP (by assumption) (by assumption) (by decide))
 refine Z.a 4 ax ?_
 replace ay := oW.aj ay jd
 replace hF := hF.go1 oW eU
 rw [hfin]; (rw [if_neg (by assumption)]; exact ⟨_, rfl, rfl, bp1, A1, n1, cp1, ay, nY, jr, hS1.2.1, hbp, hov, hF⟩)
 refine aF ?_
 refine Z.b 4 ((Gs.re o1).toArray) bF ?_
 refine Z.t 4 ((Gs.re o1).toArray) (by (simp [Value.cells, Value.oneCell', Gs.cv, Gs.fv, Gs.ie, Gs.pe, Gs.oe, Gs.cZ, Gs.fe, Gs.fE, Gs.ce, Gs.dZ, Gs.re]; done)) ax (fun w45 ax _ Au => ?_)
 replace jr := jr.aG Au (Own.aS jr (by assumption) (by decide))
 replace nY := Au.aj nY (by exact dP (by assumption) (by assumption) (by decide))
 refine Z.a 4 ax ?_
 replace ay := Au.aj ay jd
 replace hF := hF.go1 Au eU
 rw [hfin]; (rw [if_pos (Classical.not_not.1 (by assumption))]; exact ⟨_, rfl, rfl, bp1, A1, n1, cp1, ay, nY, jr, hS1.2.1, hbp, hov, hF⟩)
theorem acK {s : Gs.iV} {A : Option Addr} {n cp bp bs B0 : Nat} {w : World} (ay : Z.h w bs #[Z.i s.r0, Z.i s.c0, Z.i s.r1, Z.i s.c1, Z.i s.wh, Z.p bp] 89) (ag : Z.h w bp #[Z.i s.r, Z.i s.c, .slice A n cp, Z.i s.cur] 91) (ae : Own B0 w 37 5 (.slice A n cp) (rows Gs.cv s.cs)) (hS : Gs.Sw n s) (hB0 : B0 ≤ w.heap.size) {x : Gs.pJ} {fs : List Gs.Fd} {fA : Option Addr} {fc : Nat} (kJ : Rd w fA (rows Gs.fe fs)) (iM : Gs.iq w fs) (hfw : Gs.BU fs) (hfl : Gs.XU fs) (hfn : fs.length ≤ 100000) (nf1 : rows Gs.fe fs = [] ∨ ∀ k, fC fA k → ¬ aH (.slice A n cp) k) (nf2 : rows Gs.fe fs = [] ∨ ∀ k, fC fA k → k ≠ bp) (nf3 : rows Gs.fe fs = [] ∨ ∀ k, fC fA k → k ≠ bs) (ng1 : fs = [] ∨ ∀ k, Gs.lg fs k → ¬ aH (.slice A n cp) k) (ng2 : fs = [] ∨ ∀ k, Gs.lg fs k → k ≠ bp) (ng3 : fs = [] ∨ ∀ k, Gs.lg fs k → k ≠ bs) (hk : x.k = 243) :
    oX 65 #[Z.p bs, .agg (Gs.ce x fA fs.length fc).toArray] w (XQ (Gs.lu x.e (Gs.qR fs) s Gs.qi).1 (Gs.lu x.e (Gs.qR fs) s Gs.qi).2 A n cp bp bs B0 w) := by
 refine Xx.calls ?_
 unfold Xx
 have hW := hS.2
 obtain ⟨hn, hcw, hcu, hp, hN, hb⟩ := id hW
 have hF : aA (fun k => (aH (.slice A n cp) k ∨ k = bp) ∨ k = bs) w w := Fr.refl _ _ _
 refine Z.x ((Gs.ce x fA fs.length fc).toArray) (fun b1 w1 e1 ah _ U1 => ?_)
 refine Z.n ((Gs.re Gs.qi).toArray) (fun b2 w2 e2 ax _ U2 => ?_)
 replace ay := U1.af ay
 have jd : bs ≠ b2 := by have := ak ay; omega
 replace ag := U1.af ag
 have eY : bp ≠ b2 := by have := ak ag; omega
 replace hF := hF.go0 U1
 have eU : w.heap.size ≤ b2 := by have := hF.size; omega
 refine Z.f 0 ?_
 replace ah := U2.af ah
 refine Z.l ah ?_
 refine jq (cu _ _ _ _ _) (by omega) ?_
 refine aF ?_
 refine jq (cu _ _ _ _ _) (by omega) ?_
 refine aF ?_
 refine jq (cu _ _ _ _ _) (by omega) ?_
 refine aF ?_
 refine jq (cu _ _ _ _ _) (by omega) ?_
 refine aF ?_
 refine bP (fun g w' => (g 43 = .bool false) ∧ (Z.h w' bs #[Z.i s.r0, Z.i s.c0, Z.i s.r1, Z.i s.c1, Z.i s.wh, Z.p bp] 89) ∧ (Z.h w' bp #[Z.i s.r, Z.i s.c, .slice A n cp, Z.i s.cur] 91) ∧ (Own B0 w' 37 5 (.slice A n cp) (rows Gs.cv s.cs)) ∧ (Rd w' fA (rows Gs.fe fs)) ∧ (Gs.iq w' fs) ∧ (Z.h w' b1 ((Gs.ce x fA fs.length fc).toArray) 124) ∧ (Z.h w' b2 ((Gs.re Gs.qi).toArray) 66) ∧ (aA (fun k => (aH (.slice A n cp) k ∨ k = bp) ∨ k = bs) w w')) (fun J1 hJ1 => ?_) (fun gJ1 jK hI => ?_)
 refine jq (cu _ _ _ _ _) (by omega) ?_
 refine aF ?_
 refine jq (cu _ _ _ _ _) (by omega) ?_
 refine aF ?_
 refine jq (cu _ _ _ _ _) (by omega) ?_
 refine hJ1 _ _ ?_
 replace ae := (ae.ai U1).ai U2
 replace kJ := (kJ.ai U1).ai U2
 replace iM := (iM.ai U1).ai U2
 replace ay := U2.af ay
 replace ag := U2.af ag
 replace hF := hF.go0 U2
 exact ⟨(by rfl), ay, ag, ae, kJ, iM, ah, ax, hF⟩
 replace ae := (ae.ai U1).ai U2
 replace kJ := (kJ.ai U1).ai U2
 replace iM := (iM.ai U1).ai U2
 replace ay := U2.af ay
 replace ag := U2.af ag
 replace hF := hF.go0 U2
 obtain ⟨g43, ay, ag, ae, kJ, iM, ah, ax, hF⟩ := hI
 rw [g43]
 refine aF ?_
 refine rD (cu _ _ _ _ _) (hk) ?_
 refine aK ?_
 refine Z.b 5 ((Gs.ce x fA fs.length fc).toArray) ah ?_
 refine aN (Va ay ag ae hS (by have := hF.size; omega) kJ iM hfw hfl hfn nf1 nf2 nf3 ng1 ng2 ng3) (fun v3 w3 D3 => ?_)
 have aJ := ae
 have qF3 := hF.size
 have aoG := hF.size
 obtain ⟨rfl, bp54, A54, n54, cp54, ay, Dl, wM, hn54, hb54, ho54, U3⟩ := D3
 replace ax := U3.get ax (fun hs => by rcases hs with (hs | hs) | hs <;> first | (first | exact Own.aS aJ ax (by decide) _ hs rfl | (have := Own.ge aJ hs; omega)) | (exact absurd hs (Ne.symm eY)) | (exact absurd hs (Ne.symm jd)))
 replace hF := hF.go U3 (fun i hi hs => by exact hs)
 clear aJ
 refine Z.t 4 ((Gs.re (Gs.lu x.e (Gs.qR fs) s Gs.qi).2).toArray) (by (simp [Value.cells, Value.oneCell', Gs.cv, Gs.fv, Gs.ie, Gs.pe, Gs.oe, Gs.cZ, Gs.fe, Gs.fE, Gs.ce, Gs.dZ, Gs.re]; done)) ax (fun w4 ax _ U4 => ?_)
 replace wM := wM.aG U4 (Own.aS wM (by assumption) (by decide))
 replace Dl := U4.aj Dl (by exact dP (by assumption) (by assumption) (by decide))
 refine Z.a 4 ax ?_
 replace ay := U4.aj ay jd
 replace hF := hF.go1 U4 eU
 exact ⟨_, rfl, rfl, bp54, A54, n54, cp54, ay, Dl, wM, hn54, hb54.imp id (fun h => by omega), (fun k hk => (ho54 k hk).imp id (fun h => by omega)), hF⟩
theorem acL {s : Gs.iV} {A : Option Addr} {n cp bp bs B0 : Nat} {w : World} (ay : Z.h w bs #[Z.i s.r0, Z.i s.c0, Z.i s.r1, Z.i s.c1, Z.i s.wh, Z.p bp] 89) (ag : Z.h w bp #[Z.i s.r, Z.i s.c, .slice A n cp, Z.i s.cur] 91) (ae : Own B0 w 37 5 (.slice A n cp) (rows Gs.cv s.cs)) (hS : Gs.Sw n s) (hB0 : B0 ≤ w.heap.size) {x : Gs.pJ} {fs : List Gs.Fd} {fA : Option Addr} {fc : Nat} (kJ : Rd w fA (rows Gs.fe fs)) (iM : Gs.iq w fs) (hfw : Gs.BU fs) (hfl : Gs.XU fs) (hfn : fs.length ≤ 100000) (nf1 : rows Gs.fe fs = [] ∨ ∀ k, fC fA k → ¬ aH (.slice A n cp) k) (nf2 : rows Gs.fe fs = [] ∨ ∀ k, fC fA k → k ≠ bp) (nf3 : rows Gs.fe fs = [] ∨ ∀ k, fC fA k → k ≠ bs) (ng1 : fs = [] ∨ ∀ k, Gs.lg fs k → ¬ aH (.slice A n cp) k) (ng2 : fs = [] ∨ ∀ k, Gs.lg fs k → k ≠ bp) (ng3 : fs = [] ∨ ∀ k, Gs.lg fs k → k ≠ bs) (gQ : Gs.iq w [⟨0, 0, x⟩]) (hwx : Gs.Bf x) (hlx : Gs.Fj x.os ∧ x.os.length ≤ 100000) (nax1 : [(⟨0, 0, x⟩ : Gs.Fd)] = [] ∨ ∀ k, Gs.lg [⟨0, 0, x⟩] k → ¬ aH (.slice A n cp) k) (nax2 : [(⟨0, 0, x⟩ : Gs.Fd)] = [] ∨ ∀ k, Gs.lg [⟨0, 0, x⟩] k → k ≠ bp) (nax3 : [(⟨0, 0, x⟩ : Gs.Fd)] = [] ∨ ∀ k, Gs.lg [⟨0, 0, x⟩] k → k ≠ bs)  :
    oX 65 #[Z.p bs, .agg (Gs.ce x fA fs.length fc).toArray] w (XQ (Gs.Aw s ⟨x.m, Gs.qR fs⟩).1 (Gs.Aw s ⟨x.m, Gs.qR fs⟩).2 A n cp bp bs B0 w) := by
 by_cases h : x.k = 243
 rw [Gs.amv (c := ⟨x.m, Gs.qR fs⟩) h]
 exact acK ay ag ae hS hB0 kJ iM hfw hfl hfn nf1 nf2 nf3 ng1 ng2 ng3 h
 rw [Gs.amw (c := ⟨x.m, Gs.qR fs⟩) h]
 exact QK ay ag ae hS hB0 gQ hwx hlx nax1 nax2 nax3 h
theorem Ee {s : Gs.iV} {A : Option Addr} {n cp bp bs B0 : Nat} {w : World} (ay : Z.h w bs #[Z.i s.r0, Z.i s.c0, Z.i s.r1, Z.i s.c1, Z.i s.wh, Z.p bp] 89) (ag : Z.h w bp #[Z.i s.r, Z.i s.c, .slice A n cp, Z.i s.cur] 91) (ae : Own B0 w 37 5 (.slice A n cp) (rows Gs.cv s.cs)) (hS : Gs.Sw n s) (hB0 : B0 ≤ w.heap.size) {bA : Option Addr} {bn bc : Nat} {b : List Int} (rdb : Rd w bA (vals .u8 b)) (hbn : bn = b.length) (hbc : bn ≤ bc) (hbs : Bs b) (hbl : bn ≤ 100000) (nab1 : vals .u8 b = [] ∨ ∀ k, fC bA k → ¬ aH (.slice A n cp) k) (nab2 : vals .u8 b = [] ∨ ∀ k, fC bA k → k ≠ bp) (nab3 : vals .u8 b = [] ∨ ∀ k, fC bA k → k ≠ bs)  :
    oX 27 #[Z.p bs, .slice bA bn bc] w (XQ (Gs.zq s b).1 (Gs.zq s b).2 A n cp bp bs B0 w) := by
 refine F27.calls ?_
 unfold F27
 have hW := hS.2
 obtain ⟨hn, hcw, hcu, hp, hN, hb⟩ := id hW
 have hF : aA (fun k => (aH (.slice A n cp) k ∨ k = bp) ∨ k = bs) w w := Fr.refl _ _ _
 refine Z.n ((Gs.re Gs.qi).toArray) (fun b1 w1 e1 ah _ U1 => ?_)
 have wB : bs ≠ b1 := by have := ak ay; omega
 have kD : bp ≠ b1 := by have := ak ag; omega
 have ik := ae.apart e1
 have bZ : w.heap.size ≤ b1 := by have := hF.size; omega
 replace rdb := rdb.ai U1
 refine aN (KI b.length rdb hbn hbc hbs hbl (by omega)) (fun v2 w2 D2 => ?_)
 replace hF := hF.go0 U1
 have qF9 := hF.size
 obtain ⟨x9, fs9, fA9, fc9, er9, rfl, hpn9, aaM, aaN, aaO, gX9, gA9, gG9, hw9, hfw9, hk9, U2⟩ := D2
 replace ay := U1.af ay
 have aaP := gX9.ne (ak ay)
 replace ag := U1.af ag
 have aaQ := gX9.ne (ak ag)
 replace ae := ae.ai U1
 have RU : _ ∨ ∀ k, _ → ¬ aH _ k := gX9.imp_right fun h k hk hs => by have := h k hk; have := (Own.ge ae hs).2; omega
 have aaR := gA9.ne (ak ay)
 have aaS := gA9.ne (ak ag)
 have RV : _ ∨ ∀ k, _ → ¬ aH _ k := gA9.imp_right fun h k hk hs => by have := h k hk; have := (Own.ge ae hs).2; omega
 have aaT := gG9.ne (ak ay)
 have aaU := gG9.ne (ak ag)
 have RX : _ ∨ ∀ k, _ → ¬ aH _ k := gG9.imp_right fun h k hk hs => by have := h k hk; have := (Own.ge ae hs).2; omega
 have hpk := Gs.aez hpn9 (by omega)
 have hpl := Gs.aeA hpn9 (by omega)
 refine Z.e ?_
 refine Z.e ?_
 refine Z.n ((Gs.ce Gs.jL none 0 0).toArray) (fun b3 w3 e3 bF _ U3 => ?_)
 replace ay := U2.af ay
 have qf : bs ≠ b3 := by have := ak ay; omega
 replace ag := U2.af ag
 have kV : bp ≠ b3 := by have := ak ag; omega
 replace ae := ae.ai U2
 have iH := ae.apart e3
 replace ah := U2.af ah
 have lU : b1 ≠ b3 := by have := ak ah; omega
 have aaV := aaM.apart e3
 have aaW := aaN.apart e3
 have aaX := aaO.apart e3
 replace hF := hF.go0 U2
 have jD : w.heap.size ≤ b3 := by have := hF.size; omega
 refine Z.t 5 ((Gs.ce x9 fA9 fs9.length fc9).toArray) (by (simp [Value.cells, Value.oneCell', Gs.cv, Gs.fv, Gs.ie, Gs.pe, Gs.oe, Gs.cZ, Gs.fe, Gs.fE, Gs.ce, Gs.dZ, Gs.re]; done)) bF (fun w4 bF _ U4 => ?_)
 refine az (jQ _ _ _ _ _) (fun h5 => ?_) (fun h5 => ?_)
 refine aK ?_
 refine au (bG (l := [(0, 1), (1, 1), (2, 1), (3, 1)]) (z := #[Z.u 0, .bool false, .bool false, Z.i 0]) (cs := Gs.re (Gs.xB er9)) (by kernel_rfl) (by rfl)) ?_
 replace ah := U4.aj (U3.af ah) lU
 refine Z.t 4 ((Gs.re (Gs.xB er9)).toArray) (by (simp [Value.cells, Value.oneCell', Gs.cv, Gs.fv, Gs.ie, Gs.pe, Gs.oe, Gs.cZ, Gs.fe, Gs.fE, Gs.ce, Gs.dZ, Gs.re]; done)) ah (fun w7 ah _ U7 => ?_)
 refine Z.a 4 ah ?_
 replace ae := ((ae.ai U3).aG U4 iH).aG U7 ik
 replace ay := U7.aj (U4.aj (U3.af ay) qf) wB
 replace ag := U7.aj (U4.aj (U3.af ag) kV) kD
 replace hF := ((hF.go0 U3).go1 U4 jD).go1 U7 bZ
 rw [Gs.aku hpn9 (by assumption)]; exact ⟨_, rfl, rfl, bp, A, n, cp, ay, ag, ae, hn, .inl rfl, (fun k hk => .inl hk), hF⟩
 refine aF ?_
 refine Z.b 5 ((Gs.ce x9 fA9 fs9.length fc9).toArray) bF ?_
 replace ae := (ae.ai U3).aG U4 iH
 replace aaM := (aaM.ai U3).aG U4 aaV
 replace aaN := (aaN.ai U3).aG U4 aaW
 replace aaO := (aaO.ai U3).aG U4 aaX
 replace ay := U4.aj (U3.af ay) qf
 replace ag := U4.aj (U3.af ag) kV
 replace hF := (hF.go0 U3).go1 U4 jD
 refine aN (acL ay ag ae hS (by have := hF.size; omega) aaN aaO hfw9 hpk.2 hpl RV aaS aaR RX aaU aaT aaM hw9 hpk.1 RU aaQ aaP) (fun v9 w9 D9 => ?_)
 have aJ := ae
 have qF9 := hF.size
 have ako := hF.size
 obtain ⟨rfl, bp18, A18, n18, cp18, ay, dS, di, hn18, hb18, ho18, U9⟩ := D9
 replace ah := U4.aj (U3.af ah) lU
 replace ah := U9.get ah (fun hs => by rcases hs with (hs | hs) | hs <;> first | (first | exact Own.aS aJ ah (by decide) _ hs rfl | (have := Own.ge aJ hs; omega)) | (exact absurd hs (Ne.symm kD)) | (exact absurd hs (Ne.symm wB)))
 replace hF := hF.go U9 (fun i hi hs => by exact hs)
 clear aJ
 refine Z.t 4 ((Gs.re (Gs.Aw s ⟨x9.m, Gs.qR fs9⟩).2).toArray) (by (simp [Value.cells, Value.oneCell', Gs.cv, Gs.fv, Gs.ie, Gs.pe, Gs.oe, Gs.cZ, Gs.fe, Gs.fE, Gs.ce, Gs.dZ, Gs.re]; done)) ah (fun w10 ah _ aW => ?_)
 replace di := di.aG aW (Own.aS di (by assumption) (by decide))
 replace dS := aW.aj dS (by exact dP (by assumption) (by assumption) (by decide))
 refine Z.a 4 ah ?_
 replace ay := aW.aj ay wB
 replace hF := hF.go1 aW bZ
 rw [Gs.TB hpn9 (Classical.not_not.1 (by assumption))]; exact ⟨_, rfl, rfl, bp18, A18, n18, cp18, ay, dS, di, hn18, hb18.imp id (fun h => by omega), (fun k hk => (ho18 k hk).imp id (fun h => by omega)), hF⟩
theorem Ny {bk : Nat} {st why tn : Int} {x0 x4 x5 : Value} {w : World} (aC : Z.h w bk #[x0, Z.i st, Z.i why, Z.i tn, x4, x5] 95) (hst : 1 ≤ st ∧ st ≤ 3)  :
    oX 63 #[.pointer (some ⟨bk, 1, none⟩)] w fun e w' => ∃ v, e = .returned v ∧ ∃ (q : Bool) (why tn : Int), v = .bool q ∧ Z.h w' bk #[x0, Z.i 1, Z.i why, Z.i tn, x4, x5] 95 ∧ aA (· = bk) w w' := by
 refine F63.calls ?_
 unfold F63
 have hF : aA (· = bk) w w := Fr.refl _ _ _
 refine dw ?_
 refine Z.f 0 ?_
 refine Z.l aC ?_
 refine az (jQ _ _ _ _ _) (fun h1 => ?_) (fun h1 => ?_)
 refine aX (aX ?_)
 refine dw ?_
 refine aX ?_
 refine Z.f 0 ?_
 refine aX ?_
 refine Z.l aC ?_
 refine aX ?_
 refine az (jQ _ _ _ _ _) (fun h2 => ?_) (fun h2 => ?_)
 refine aU (aK ?_)
 (have e : st = 1 := (by omega); subst e; exact ⟨_, rfl, _, _, _, rfl, aC, hF⟩)
 refine aU (aF ?_)
 refine aN (zQ aC) (fun v4 w4 D4 => ?_)
 obtain ⟨t16, N4, U4⟩ := D4
 replace aC := N4
 replace hF := hF.go U4 (fun i _ h => h)
 exact ⟨_, rfl, _, _, _, rfl, aC, hF⟩
 refine aQ (aQ (aQ (aQ (aQ (aT (aF ?_))))))
 refine aN (zQ aC) (fun v6 w6 D6 => ?_)
 obtain ⟨t16, N6, U6⟩ := D6
 replace aC := N6
 replace hF := hF.go U6 (fun i _ h => h)
 exact ⟨_, rfl, _, _, _, rfl, aC, hF⟩
theorem RH {bk : Nat} {st why tn : Int} {x0 x4 x5 : Value} {w : World} (aC : Z.h w bk #[x0, Z.i st, Z.i why, Z.i tn, x4, x5] 95) (hst : 1 ≤ st ∧ st ≤ 3)  :
    oX 47 #[.pointer (some ⟨bk, 1, none⟩)] w fun e w' => ∃ v, e = .returned v ∧ ∃ (q : Bool) (st why tn : Int), v = .bool q ∧ (1 ≤ st ∧ st ≤ 3) ∧ Z.h w' bk #[x0, Z.i st, Z.i why, Z.i tn, x4, x5] 95 ∧ aA (· = bk) w w' := by
 refine F47.calls ?_
 unfold F47
 have hF : aA (· = bk) w w := Fr.refl _ _ _
 refine dw ?_
 refine Z.f 0 ?_
 refine Z.l aC ?_
 refine az (jQ _ _ _ _ _) (fun h1 => ?_) (fun h1 => ?_)
 refine aK ?_
 exact ⟨_, rfl, _, _, _, _, rfl, hst, aC, hF⟩
 refine aF ?_
 refine aN (zQ aC) (fun v3 w3 D3 => ?_)
 obtain ⟨t9, N3, U3⟩ := D3
 replace aC := N3
 replace hF := hF.go U3 (fun i _ h => h)
 exact ⟨_, rfl, _, _, _, _, rfl, (by decide : (1 : Int) ≤ 1 ∧ (1 : Int) ≤ 3), aC, hF⟩
theorem Ue {bk : Nat} {st why tn : Int} {x0 x4 x5 : Value} {w : World} (aC : Z.h w bk #[x0, Z.i st, Z.i why, Z.i tn, x4, x5] 95) {y : Int} (hs : st = 1) :
    oX 51 #[.pointer (some ⟨bk, 1, none⟩), Z.i y] w fun e w' => ∃ v, e = .returned v ∧ v = Z.i y ∧ ∃ (st why tn : Int), (1 ≤ st ∧ st ≤ 3) ∧ Z.h w' bk #[x0, Z.i st, Z.i why, Z.i tn, x4, x5] 95 ∧ aA (· = bk) w w' := by
 refine Xl.calls ?_
 unfold Xl
 have hF : aA (· = bk) w w := Fr.refl _ _ _
 refine aB (mg aC) (fun w1 U1 => ?_)
 rw [if_pos hs]
 refine jq (jQ _ _ _ _ _) (fun h => h rfl) ?_
 refine aF ?_
 refine bP (fun g w' => ∃ (st : Int) (why : Int) (tn : Int), (Z.h w' bk #[x0, Z.i st, Z.i why, Z.i tn, x4, x5] 95) ∧ ((1 ≤ st ∧ st ≤ 3)) ∧ (aA (· = bk) w w')) (fun J1 hJ1 => ?_) (fun gJ1 jK hI => ?_)
 refine az (jQ _ _ _ _ _) (fun h2 => ?_) (fun h2 => ?_)
 refine aK ?_
 replace aC := U1.af aC
 refine aN (Ey aC (s2 := 3) (y2 := y)) (fun v3 w3 D3 => ?_)
 obtain ⟨t15, N3, U3⟩ := D3
 replace aC := N3
 replace hF := hF.go0 U1
 replace hF := hF.go U3 (fun i _ h => h)
 refine hJ1 _ _ ?_
 exact ⟨_, _, _, aC, (by omega), hF⟩
 refine aF ?_
 refine hJ1 _ _ ?_
 replace aC := U1.af aC
 replace hF := hF.go0 U1
 exact ⟨_, _, _, aC, (by omega), hF⟩
 replace aC := U1.af aC
 replace hF := hF.go0 U1
 obtain ⟨st, why, tn, aC, hst, hF⟩ := hI
 exact ⟨_, rfl, rfl, _, _, _, hst, aC, hF⟩
theorem Zc {r c cur : Int} {A : Option Addr} {n cp bp B0 : Nat} {cs : List Gs.Cell} {w : World} (ag : Z.h w bp #[Z.i r, Z.i c, .slice A n cp, Z.i cur] 91) (ae : Own B0 w 37 5 (.slice A n cp) (rows Gs.cv cs)) (hW : Gs.Pw r c n cs cur) {k : Int} :
    oX 50 #[Z.p bp, Z.i k] w fun e w' => ∃ v, e = .returned v ∧ ∃ (q : Bool) (cur1 : Int), v = .bool q ∧ Gs.Pw r c n cs cur1 ∧ (q = true → 2 ≤ k ∧ k ≤ 9) ∧ (q = false → cur1 = cur ∧ ¬ (2 ≤ k ∧ k ≤ 9)) ∧ Z.h w' bp #[Z.i r, Z.i c, .slice A n cp, Z.i cur1] 91 ∧ aA (· = bp) w w' := by
 refine Xm.calls ?_
 unfold Xm
 obtain ⟨hn, hcw, hcu, hp, hN, hb⟩ := id hW; have hrc := hW.rc
 have hF : aA (· = bp) w w := Fr.refl _ _ _
 refine bP (fun g w' => ∃ (cur1 : Int), (Z.h w' bp #[Z.i r, Z.i c, .slice A n cp, Z.i cur1] 91) ∧ (Gs.Pw r c n cs cur1) ∧ (2 ≤ k ∧ k ≤ 9) ∧ (aA (· = bp) w w')) (fun J1 hJ1 => ?_) (fun gJ1 jK hI => ?_)
 refine az (cu _ _ _ _ _) (fun h1 => ?_) (fun h1 => ?_)
 refine aK ?_
 refine aN (Ew ag ae hW) (fun v2 w2 D2 => ?_)
 obtain ⟨cur, rfl, hW, N2, U2⟩ := D2
 obtain ⟨hn, hcw, hcu, hp, hN, hb⟩ := id hW
 replace ag := N2
 replace hF := hF.go U2 (fun i _ h => h)
 refine hJ1 _ _ ?_
 exact ⟨_, ag, hW, (by omega), hF⟩
 refine aF ?_
 refine az (cu _ _ _ _ _) (fun h3 => ?_) (fun h3 => ?_)
 refine aK ?_
 refine aN (TM ag ae hW) (fun v4 w4 D4 => ?_)
 obtain ⟨cur, rfl, hW, N4, U4⟩ := D4
 obtain ⟨hn, hcw, hcu, hp, hN, hb⟩ := id hW
 replace ag := N4
 replace hF := hF.go U4 (fun i _ h => h)
 refine hJ1 _ _ ?_
 exact ⟨_, ag, hW, (by omega), hF⟩
 refine aF ?_
 refine az (cu _ _ _ _ _) (fun h5 => ?_) (fun h5 => ?_)
 refine aK ?_
 refine aN (Ns ag ae hW) (fun v6 w6 D6 => ?_)
 obtain ⟨cur, rfl, hW, N6, U6⟩ := D6
 obtain ⟨hn, hcw, hcu, hp, hN, hb⟩ := id hW
 replace ag := N6
 replace hF := hF.go U6 (fun i _ h => h)
 refine hJ1 _ _ ?_
 exact ⟨_, ag, hW, (by omega), hF⟩
 refine aF ?_
 refine az (cu _ _ _ _ _) (fun h7 => ?_) (fun h7 => ?_)
 refine aK ?_
 refine aN (RD ag ae hW) (fun v8 w8 D8 => ?_)
 obtain ⟨cur, rfl, hW, N8, U8⟩ := D8
 obtain ⟨hn, hcw, hcu, hp, hN, hb⟩ := id hW
 replace ag := N8
 replace hF := hF.go U8 (fun i _ h => h)
 refine hJ1 _ _ ?_
 exact ⟨_, ag, hW, (by omega), hF⟩
 refine aF ?_
 refine az (cu _ _ _ _ _) (fun h9 => ?_) (fun h9 => ?_)
 refine aK ?_
 refine aN (yG ag ae hW (i := -1) (j := 0) (by decide) (by decide)) (fun v10 w10 D10 => ?_)
 obtain ⟨cur, rfl, hW, N10, aW⟩ := D10
 obtain ⟨hn, hcw, hcu, hp, hN, hb⟩ := id hW
 replace ag := N10
 replace hF := hF.go aW (fun i _ h => h)
 refine hJ1 _ _ ?_
 exact ⟨_, ag, hW, (by omega), hF⟩
 refine aF ?_
 refine az (cu _ _ _ _ _) (fun h11 => ?_) (fun h11 => ?_)
 refine aK ?_
 refine aN (yG ag ae hW (i := 1) (j := 0) (by decide) (by decide)) (fun v12 w12 D12 => ?_)
 obtain ⟨cur, rfl, hW, N12, df⟩ := D12
 obtain ⟨hn, hcw, hcu, hp, hN, hb⟩ := id hW
 replace ag := N12
 replace hF := hF.go df (fun i _ h => h)
 refine hJ1 _ _ ?_
 exact ⟨_, ag, hW, (by omega), hF⟩
 refine aF ?_
 refine az (cu _ _ _ _ _) (fun h13 => ?_) (fun h13 => ?_)
 refine aK ?_
 refine aN (yG ag ae hW (i := 0) (j := -1) (by decide) (by decide)) (fun v14 sJ D14 => ?_)
 obtain ⟨cur, rfl, hW, N14, dm⟩ := D14
 obtain ⟨hn, hcw, hcu, hp, hN, hb⟩ := id hW
 replace ag := N14
 replace hF := hF.go dm (fun i _ h => h)
 refine hJ1 _ _ ?_
 exact ⟨_, ag, hW, (by omega), hF⟩
 refine aF ?_
 refine az (cu _ _ _ _ _) (fun h15 => ?_) (fun h15 => ?_)
 refine aK ?_
 refine aN (yG ag ae hW (i := 0) (j := 1) (by decide) (by decide)) (fun v16 w16 D16 => ?_)
 obtain ⟨cur, rfl, hW, N16, bQ⟩ := D16
 obtain ⟨hn, hcw, hcu, hp, hN, hb⟩ := id hW
 replace ag := N16
 replace hF := hF.go bQ (fun i _ h => h)
 refine hJ1 _ _ ?_
 exact ⟨_, ag, hW, (by omega), hF⟩
 refine aF ?_
 exact ⟨_, rfl, _, _, rfl, hW, (fun h => by cases h), (fun _ => ⟨rfl, by omega⟩), ag, hF⟩
 obtain ⟨cur1, ag, hW1, hk9, hF⟩ := hI
 exact ⟨_, rfl, _, _, rfl, hW1, (fun _ => hk9), (fun h => by cases h), ag, hF⟩
theorem Zd {r c cur : Int} {A : Option Addr} {n cp bp B0 : Nat} {cs : List Gs.Cell} {bk bs : Nat} {st why tn last : Int} {ins : Bool} {r0 c0 r1 c1 wh : Int} {w : World} (ag : Z.h w bp #[Z.i r, Z.i c, .slice A n cp, Z.i cur] 91) (ae : Own B0 w 37 5 (.slice A n cp) (rows Gs.cv cs)) (hW : Gs.Pw r c n cs cur) (aC : Z.h w bk #[Z.p bs, Z.i st, Z.i why, Z.i tn, .bool ins, Z.u last] 95) (ay : Z.h w bs #[Z.i r0, Z.i c0, Z.i r1, Z.i c1, Z.i wh, Z.p bp] 89) {k x : Int} (hxb : 0 ≤ x ∧ x ≤ 255) :
    oX 52 #[Z.p bk, .agg #[Z.i k, Z.u x]] w fun e w' => ∃ v, e = .returned v ∧ ∃ (q : Int) (c1 : List Gs.Cell) (cur1 : Int) (ins1 : Bool), v = Z.i q ∧ Gs.Pw r c n c1 cur1 ∧ Gs.ER k q cs c1 cur cur1 ∧ Z.h w' bp #[Z.i r, Z.i c, .slice A n cp, Z.i cur1] 91 ∧ Own B0 w' 37 5 (.slice A n cp) (rows Gs.cv c1) ∧ Z.h w' bk #[Z.p bs, Z.i st, Z.i why, Z.i tn, .bool ins1, Z.u last] 95 ∧ aA (fun k => (aH (.slice A n cp) k ∨ k = bp) ∨ k = bk) w w' := by
 refine Xn.calls ?_
 unfold Xn
 obtain ⟨hn, hcw, hcu, hp, hN, hb⟩ := id hW; have hrc := hW.rc
 have hF : aA (fun k => (aH (.slice A n cp) k ∨ k = bp) ∨ k = bk) w w := Fr.refl _ _ _
 refine Z.x (#[Z.i k, Z.u x]) (fun b1 w1 e1 ah _ U1 => ?_)
 refine dw ?_
 refine Z.f 0 ?_
 replace aC := U1.af aC
 refine Z.l aC ?_
 replace ay := U1.af ay
 refine aB (iL ay) (fun w2 U2 => ?_)
 refine bP (fun g w' => ∃ (c1 : List Gs.Cell) (cur1 : Int) (ins1 : Bool), (Own B0 w' 37 5 (.slice A n cp) (rows Gs.cv c1)) ∧ (Z.h w' bp #[Z.i r, Z.i c, .slice A n cp, Z.i cur1] 91) ∧ (Z.h w' bk #[Z.p bs, Z.i st, Z.i why, Z.i tn, .bool ins1, Z.u last] 95) ∧ (Gs.Pw r c n c1 cur1) ∧ (Gs.ER k 0 cs c1 cur cur1) ∧ (aA (fun k => (aH (.slice A n cp) k ∨ k = bp) ∨ k = bk) w w')) (fun J1 hJ1 => ?_) (fun gJ1 jK hI => ?_)
 refine Z.f 0 ?_
 replace ah := U2.af ah
 refine Z.l ah ?_
 refine az (cu _ _ _ _ _) (fun h3 => ?_) (fun h3 => ?_)
 refine aK ?_
 refine dK (S := no) (fun w4 U4 => ?_)
 refine Z.g 1 ?_
 replace ah := U4.af ah
 refine Z.m ah ?_
 refine eG ?_
 refine Z.g 4 ?_
 replace aC := U4.af (U2.af aC)
 refine Z.m aC ?_
 refine aI (fun w5 U5 => ?_)
 replace ae := (((ae.ai U1).ai U2).ai U4).ai U5
 replace ag := U5.af (U4.af (U2.af (U1.af ag)))
 refine aN (Cm ag ae hW (x := x) (ins := ins) hxb) (fun v6 w6 D6 => ?_)
 obtain ⟨e22, c1, cur1, rfl, hW1, hm22, M6, N6, U6⟩ := D6
 have aJ := ae
 replace ae := N6
 replace aC := U5.af aC
 replace aC := U6.get aC (fun hs => Or.elim (show aH _ _ ∨ _ = _ from hs) (fun h => Own.aS aJ aC (by decide) _ h rfl) (fun hb => absurd hb (by exact dP (by assumption) (by assumption) (by decide))))
 replace ag := M6
 replace hF := (((hF.go0 U1).go0 U2).go0 U4).go0 U5
 replace hF := hF.go U6 (fun i h hs => Or.elim (show aH _ _ ∨ _ = _ from hs) (fun hs => .inl (.inl hs)) (fun hb => by (subst hb; omega)))
 clear aJ
 refine aI (fun w7 U7 => ?_)
 replace ae := ae.ai U7
 replace aC := U7.af aC
 replace ag := U7.af ag
 replace hF := hF.go0 U7
 exact ⟨_, rfl, _, _, _, _, rfl, hW1, .inl ⟨by omega, (by exact hm22)⟩, ag, ae, aC, hF⟩
 refine aF ?_
 refine az (cu _ _ _ _ _) (fun h9 => ?_) (fun h9 => ?_)
 refine aK ?_
 replace ae := (ae.ai U1).ai U2
 replace ag := U2.af (U1.af ag)
 refine aN (Ub ag ae hW) (fun v10 w10 D10 => ?_)
 obtain ⟨e26, c1, cur1, rfl, hW1, hm26, M10, N10, aW⟩ := D10
 have aJ := ae
 replace ae := N10
 replace aC := U2.af aC
 replace aC := aW.get aC (fun hs => Or.elim (show aH _ _ ∨ _ = _ from hs) (fun h => Own.aS aJ aC (by decide) _ h rfl) (fun hb => absurd hb (by exact dP (by assumption) (by assumption) (by decide))))
 replace ag := M10
 replace hF := (hF.go0 U1).go0 U2
 replace hF := hF.go aW (fun i h hs => Or.elim (show aH _ _ ∨ _ = _ from hs) (fun hs => .inl (.inl hs)) (fun hb => by (subst hb; omega)))
 clear aJ
 exact ⟨_, rfl, _, _, _, _, rfl, hW1, .inl ⟨by omega, (by exact hm26)⟩, ag, ae, aC, hF⟩
 refine aF ?_
 refine az (cu _ _ _ _ _) (fun h12 => ?_) (fun h12 => ?_)
 refine aK ?_
 replace ae := (ae.ai U1).ai U2
 replace ag := U2.af (U1.af ag)
 refine aN (Wn ag ae hW) (fun v13 uX D13 => ?_)
 obtain ⟨q30, cs, cur, rfl, hW, M13, N13, dE⟩ := D13
 obtain ⟨hn, hcw, hcu, hp, hN, hb⟩ := id hW
 have aJ := ae
 replace ae := N13
 replace aC := U2.af aC
 replace aC := dE.get aC (fun hs => Or.elim (show aH _ _ ∨ _ = _ from hs) (fun h => Own.aS aJ aC (by decide) _ h rfl) (fun hb => absurd hb (by exact dP (by assumption) (by assumption) (by decide))))
 replace ag := M13
 replace hF := (hF.go0 U1).go0 U2
 replace hF := hF.go dE (fun i h hs => Or.elim (show aH _ _ ∨ _ = _ from hs) (fun hs => .inl (.inl hs)) (fun hb => by (subst hb; omega)))
 clear aJ
 refine hJ1 _ _ ?_
 exact ⟨_, _, _, ae, ag, aC, hW, (.inr (.inl ⟨by assumption, rfl⟩)), hF⟩
 refine aF ?_
 refine az (cu _ _ _ _ _) (fun h14 => ?_) (fun h14 => ?_)
 refine aK ?_
 replace ae := (ae.ai U1).ai U2
 replace ag := U2.af (U1.af ag)
 refine aN (Nv ag ae hW) (fun v15 tX D15 => ?_)
 obtain ⟨e34, c1, cur1, rfl, hW1, hm34, M15, N15, bU⟩ := D15
 have aJ := ae
 replace ae := N15
 replace aC := U2.af aC
 replace aC := bU.get aC (fun hs => Or.elim (show aH _ _ ∨ _ = _ from hs) (fun h => Own.aS aJ aC (by decide) _ h rfl) (fun hb => absurd hb (by exact dP (by assumption) (by assumption) (by decide))))
 replace ag := M15
 replace hF := (hF.go0 U1).go0 U2
 replace hF := hF.go bU (fun i h hs => Or.elim (show aH _ _ ∨ _ = _ from hs) (fun hs => .inl (.inl hs)) (fun hb => by (subst hb; omega)))
 clear aJ
 exact ⟨_, rfl, _, _, _, _, rfl, hW1, .inl ⟨by omega, (by exact hm34)⟩, ag, ae, aC, hF⟩
 refine aF ?_
 refine az (cu _ _ _ _ _) (fun h17 => ?_) (fun h17 => ?_)
 refine aK ?_
 refine dw ?_
 refine Z.f 4 ?_
 replace aC := U2.af aC
 refine Z.l aC ?_
 refine au (AP _) ?_
 refine dw ?_
 refine Z.f 4 ?_
 refine Z.s aC (fun xh aC _ dO => ?_)
 replace ae := (ae.ai U1).ai U2
 replace ae := ae.aG dO (Own.aS ae (by assumption) (by decide))
 replace ag := U2.af (U1.af ag)
 replace ag := dO.aj ag (by exact dP (by assumption) (by assumption) (by decide))
 replace hF := (hF.go0 U1).go0 U2
 replace hF := hF.go dO (fun i _ h => .inr h)
 refine hJ1 _ _ ?_
 exact ⟨_, _, _, ae, ag, aC, hW, (.inr (.inr ⟨by omega, rfl, rfl, rfl⟩)), hF⟩
 refine aF ?_
 refine az (cu _ _ _ _ _) (fun h19 => ?_) (fun h19 => ?_)
 refine aK ?_
 refine dw ?_
 refine Z.f 4 ?_
 replace aC := U2.af aC
 refine Z.l aC ?_
 replace ae := (ae.ai U1).ai U2
 replace ag := U2.af (U1.af ag)
 refine aN (Uc ag ae hW (ins := ins)) (fun v20 wY D20 => ?_)
 obtain ⟨e52, c1, cur1, rfl, hW1, hm52, M20, N20, dR⟩ := D20
 have aJ := ae
 replace ae := N20
 replace aC := dR.get aC (fun hs => Or.elim (show aH _ _ ∨ _ = _ from hs) (fun h => Own.aS aJ aC (by decide) _ h rfl) (fun hb => absurd hb (by exact dP (by assumption) (by assumption) (by decide))))
 replace ag := M20
 replace hF := (hF.go0 U1).go0 U2
 replace hF := hF.go dR (fun i h hs => Or.elim (show aH _ _ ∨ _ = _ from hs) (fun hs => .inl (.inl hs)) (fun hb => by (subst hb; omega)))
 clear aJ
 exact ⟨_, rfl, _, _, _, _, rfl, hW1, .inl ⟨by omega, (by exact hm52)⟩, ag, ae, aC, hF⟩
 refine aF ?_
 refine az (cu _ _ _ _ _) (fun h22 => ?_) (fun h22 => ?_)
 refine aK ?_
 refine dw ?_
 refine Z.f 4 ?_
 replace aC := U2.af aC
 refine Z.l aC ?_
 replace ae := (ae.ai U1).ai U2
 replace ag := U2.af (U1.af ag)
 refine aN (RG ag ae hW (ins := ins)) (fun v23 ES D23 => ?_)
 obtain ⟨e60, c1, cur1, rfl, hW1, hm60, M23, N23, jg⟩ := D23
 have aJ := ae
 replace ae := N23
 replace aC := jg.get aC (fun hs => Or.elim (show aH _ _ ∨ _ = _ from hs) (fun h => Own.aS aJ aC (by decide) _ h rfl) (fun hb => absurd hb (by exact dP (by assumption) (by assumption) (by decide))))
 replace ag := M23
 replace hF := (hF.go0 U1).go0 U2
 replace hF := hF.go jg (fun i h hs => Or.elim (show aH _ _ ∨ _ = _ from hs) (fun hs => .inl (.inl hs)) (fun hb => by (subst hb; omega)))
 clear aJ
 exact ⟨_, rfl, _, _, _, _, rfl, hW1, .inl ⟨by omega, (by exact hm60)⟩, ag, ae, aC, hF⟩
 refine aF ?_
 refine hJ1 _ _ ?_
 replace ae := (ae.ai U1).ai U2
 replace ag := U2.af (U1.af ag)
 replace hF := (hF.go0 U1).go0 U2
 replace aC := U2.af aC
 exact ⟨_, _, _, ae, ag, aC, hW, (.inr (.inr ⟨by omega, rfl, rfl, rfl⟩)), hF⟩
 replace ae := (ae.ai U1).ai U2
 replace ag := U2.af (U1.af ag)
 replace hF := (hF.go0 U1).go0 U2
 replace aC := U2.af aC
 obtain ⟨c1, cur1, ins1, ae, ag, aC, hW1, her, hF⟩ := hI
 exact ⟨_, rfl, _, _, _, _, rfl, hW1, her, ag, ae, aC, hF⟩
theorem CO {r c cur : Int} {A : Option Addr} {n cp bp B0 : Nat} {cs : List Gs.Cell} {bk bs : Nat} {st why tn last : Int} {ins : Bool} {r0 c0 r1 c1 wh : Int} {w : World} (ag : Z.h w bp #[Z.i r, Z.i c, .slice A n cp, Z.i cur] 91) (ae : Own B0 w 37 5 (.slice A n cp) (rows Gs.cv cs)) (hW : Gs.Pw r c n cs cur) (aC : Z.h w bk #[Z.p bs, Z.i st, Z.i why, Z.i tn, .bool ins, Z.u last] 95) (ay : Z.h w bs #[Z.i r0, Z.i c0, Z.i r1, Z.i c1, Z.i wh, Z.p bp] 89) {k x : Int} (hxb : 0 ≤ x ∧ x ≤ 255) (hk17 : k ≠ 17) (hst : 1 ≤ st ∧ st ≤ 3)  :
    oX 18 #[Z.p bk, .agg #[Z.i k, Z.u x]] w fun e w' => ∃ v, e = .returned v ∧ ∃ (e st' why' tn' : Int) (ins' : Bool) (c1 : List Gs.Cell) (cur1 : Int), v = .tuple #[.bool false, Z.i e] ∧ (1 ≤ st' ∧ st' ≤ 3) ∧ Gs.Pw r c n c1 cur1 ∧ Gs.PR k e st cs c1 cur ∧ Z.h w' bp #[Z.i r, Z.i c, .slice A n cp, Z.i cur1] 91 ∧ Own B0 w' 37 5 (.slice A n cp) (rows Gs.cv c1) ∧ Z.h w' bk #[Z.p bs, Z.i st', Z.i why', Z.i tn', .bool ins', Z.u last] 95 ∧ aA (fun k => (aH (.slice A n cp) k ∨ k = bp) ∨ k = bk) w w' := by
 refine KO.calls ?_
 unfold KO
 obtain ⟨hn, hcw, hcu, hp, hN, hb⟩ := id hW; have hrc := hW.rc
 have hF : aA (fun k => (aH (.slice A n cp) k ∨ k = bp) ∨ k = bk) w w := Fr.refl _ _ _
 refine Z.x (#[Z.i k, Z.u x]) (fun b1 w1 e1 ah _ U1 => ?_)
 have kD : bp ≠ b1 := by have := ak ag; omega
 refine Z.f 0 ?_
 refine Z.l ah ?_
 refine az (cu _ _ _ _ _) (fun h2 => ?_) (fun h2 => ?_)
 refine aK ?_
 refine dw ?_
 refine Z.f 1 ?_
 replace aC := U1.af aC
 refine aN (RH aC hst) (fun v3 w3 D3 => ?_)
 obtain ⟨q13, st1, why1, tn1, rfl, hst1, N3, U3⟩ := D3
 replace ae := ae.ai U1
 replace ae := ae.aG U3 (Own.aS ae (by assumption) (by decide))
 replace ag := U1.af ag
 replace ag := U3.aj ag (by exact dP (by assumption) (by assumption) (by decide))
 replace aC := N3
 replace hF := hF.go0 U1
 replace hF := hF.go U3 (fun i _ h => .inr h)
 refine dw ?_
 refine Z.f 4 ?_
 refine Z.s aC (fun w4 aC _ U4 => ?_)
 replace ae := ae.aG U4 (Own.aS ae (by assumption) (by decide))
 replace ag := U4.aj ag (by exact dP (by assumption) (by assumption) (by decide))
 replace hF := hF.go U4 (fun i _ h => .inr h)
 exact ⟨_, rfl, _, _, _, _, _, _, _, rfl, hst1, hW, Gs.PR.keep (by omega), ag, ae, aC, hF⟩
 refine aF ?_
 refine dw ?_
 refine Z.f 1 ?_
 replace aC := U1.af aC
 refine aB (mg aC) (fun w6 U6 => ?_)
 obtain ⟨em, hem⟩ : ∃ em : Int, em = (if st = 1 then 0 else 40) := ⟨_, rfl⟩
 rw [← hem]
 have hem2 : (em = 0 → st = 1) ∧ (st = 1 → em = 0) := by subst hem; split <;> omega
 clear hem
 refine az (jQ _ _ _ _ _) (fun h7 => ?_) (fun h7 => ?_)
 refine aK ?_
 replace ae := (ae.ai U1).ai U6
 replace ag := U6.af (U1.af ag)
 replace hF := (hF.go0 U1).go0 U6
 replace aC := U6.af aC
 exact ⟨_, rfl, _, _, _, _, _, _, _, rfl, hst, hW, Gs.PR.keep (by omega), ag, ae, aC, hF⟩
 refine aF ?_
 replace ah := U6.af ah
 refine Z.b 2 (#[Z.i k, Z.u x]) ah ?_
 refine dU (Gp hxb) (fun w9 U9 h9 => ?_) (fun w9 U9 h9 => ?_)
 simp only [Z.d, Z.c] at h9
 refine au (kz) ?_
 refine aF ?_
 refine Z.f 0 ?_
 replace ah := U9.af ah
 refine Z.l ah ?_
 refine jq (cu _ _ _ _ _) (hk17) ?_
 refine aF ?_
 refine dK (S := no) (fun w10 aW => ?_)
 refine eG ?_
 refine Z.g 0 ?_
 replace aC := aW.af (U9.af (U6.af aC))
 refine bI (fun w' hw' => by have aC := (Fr.jk hw').af aC; exact (kT (by kernel_rfl) aC (by rfl))) ?_
 refine Z.g 0 ?_
 replace ah := aW.af ah
 refine Z.m ah ?_
 refine aI (fun nT bJ => ?_)
 refine jo ?_
 replace ay := bJ.af (aW.af (U9.af (U6.af (U1.af ay))))
 refine aB (iL ay) (fun w12 df => ?_)
 refine ⟨df, ?_⟩
 refine aI (fun uX dE => ?_)
 replace ae := ((((((ae.ai U1).ai U6).ai U9).ai aW).ai bJ).ai df).ai dE
 replace ag := dE.af (df.af (bJ.af (aW.af (U9.af (U6.af (U1.af ag))))))
 refine aN (Zc ag ae hW (k := k)) (fun v14 sJ D14 => ?_)
 obtain ⟨q47, cur1, rfl, hW1, hy47, hz47, N14, dm⟩ := D14
 replace ae := ae.aG dm (Own.aS ae (by assumption) (by decide))
 replace aC := dE.af (df.af (bJ.af aC))
 replace aC := dm.aj aC (by exact dP (by assumption) (by assumption) (by decide))
 replace ay := dE.af (df.af ay)
 replace ay := dm.aj ay (by exact dP (by assumption) (by assumption) (by decide))
 replace ag := N14
 replace hF := ((((((hF.go0 U1).go0 U6).go0 U9).go0 aW).go0 bJ).go0 df).go0 dE
 replace hF := hF.go dm (fun i _ h => .inl (.inr h))
 refine aI (fun tX bU => ?_)
 refine jX (fun h16 => ?_) (fun h16 => ?_)
 replace ae := ae.ai bU
 replace aC := bU.af aC
 replace ag := bU.af ag
 replace hF := hF.go0 bU
 exact ⟨_, rfl, _, _, _, _, _, _, _, rfl, hst, hW1, Gs.PR.keep (by have := hy47 (by assumption); omega), ag, ae, aC, hF⟩
 refine dK (S := (fun k => (aH (.slice A n cp) k ∨ k = bp) ∨ k = bk)) (fun xh dO => ?_)
 refine eG ?_
 refine Z.g 1 ?_
 obtain ⟨rfl, hk9⟩ := hz47 (by assumption)
 replace ah := dO.af (bU.af (dm.aj (dE.af (df.af (bJ.af ah))) (Ne.symm kD)))
 refine bI (fun w' hw' => by have ah := (Fr.jk hw').af ah; exact (zg (n := 2) (cs' := #[Z.i k, Z.u x]) (by kernel_rfl) ah (Nat.le_of_ble_eq_true rfl) (by rfl))) ?_
 refine aI (fun Aa eX => ?_)
 refine jo ?_
 replace ae := ((ae.ai bU).ai dO).ai eX
 replace aC := eX.af (dO.af (bU.af aC))
 replace ay := eX.af (dO.af (bU.af ay))
 replace ag := eX.af (dO.af (bU.af ag))
 refine aN (Zd ag ae hW aC ay hxb) (fun v20 wY D20 => ?_)
 replace hF := ((hF.go0 bU).go0 dO).go0 eX
 have aoy := hF.size
 obtain ⟨q53, c1, cur1, ins1, rfl, hW1, her53, ag, ae, aC, dR⟩ := D20
 replace hF := hF.go dR (fun i hi hs => by exact hs)
 refine ⟨dR, ?_⟩
 refine aI (fun BQ dV => ?_)
 replace aC := dV.af aC
 refine aN (Ue aC (hem2.1 (Classical.not_not.1 (by assumption)))) (fun v22 Hy D22 => ?_)
 obtain ⟨rfl, st1, why1, tn1, hst1, N22, gY⟩ := D22
 replace ae := ae.ai dV
 replace ae := ae.aG gY (Own.aS ae (by assumption) (by decide))
 replace ag := dV.af ag
 replace ag := gY.aj ag (by exact dP (by assumption) (by assumption) (by decide))
 replace aC := N22
 replace hF := hF.go0 dV
 replace hF := hF.go gY (fun i _ h => .inr h)
 refine aI (fun ES jg => ?_)
 replace ae := ae.ai jg
 replace aC := jg.af aC
 replace ag := jg.af ag
 replace hF := hF.go0 jg
 exact ⟨_, rfl, _, _, _, _, _, _, _, rfl, hst1, hW1, her53.pr, ag, ae, aC, hF⟩
 simp only [Z.d, Z.c] at h9
 refine au (nP) ?_
 refine aK ?_
 replace ae := ((ae.ai U1).ai U6).ai U9
 replace ag := U9.af (U6.af (U1.af ag))
 replace hF := ((hF.go0 U1).go0 U6).go0 U9
 replace aC := U9.af (U6.af aC)
 exact ⟨_, rfl, _, _, _, _, _, _, _, rfl, hst, hW, Gs.PR.keep (by omega), ag, ae, aC, hF⟩
theorem Ve {s : Gs.iV} {pv : Option Addr} {bs : Nat} {w : World} (ay : Z.h w bs #[Z.i s.r0, Z.i s.c0, Z.i s.r1, Z.i s.c1, Z.i s.wh, .pointer pv] 89) (hz0 : Gs.aZ s.r0 s.c0 ≠ 0) (hz1 : Gs.aZ s.r1 s.c1 ≠ 0) :
    oX 44 #[Z.p bs] w fun e w' => ∃ v, e = .returned v ∧ ∃ bp g, Z.h w' bs #[Z.i (Gs.bT s 0).r0, Z.i (Gs.bT s 0).c0, Z.i (Gs.bT s 0).r1, Z.i (Gs.bT s 0).c1, Z.i (Gs.bT s 0).wh, Z.p bp] 89 ∧ w.heap.size ≤ bp ∧ Z.h w' bp #[Z.i (Gs.bT s 0).r, Z.i (Gs.bT s 0).c, .slice (some ⟨g, 0, none⟩) (Gs.bT s 0).cs.length (Gs.bT s 0).cs.length, Z.i (Gs.bT s 0).cur] 91 ∧ Own w.heap.size w' 37 5 (.slice (some ⟨g, 0, none⟩) (Gs.bT s 0).cs.length (Gs.bT s 0).cs.length) (rows Gs.cv (Gs.bT s 0).cs) ∧ aA (· = bs) w w' := by
 refine Xq.calls ?_
 unfold Xq
 have hF : aA (· = bs) w w := Fr.refl _ _ _
 refine aN (AV ay hz0 hz1) (fun v1 w1 D1 => ?_)
 obtain ⟨bp, g, N1, gbp, ag, ae, U1⟩ := D1
 have qo : w.heap.size ≤ bp := by have := hF.size; omega
 replace ae := ae.mono (B' := w.heap.size) hF.size
 replace ay := N1
 replace hF := hF.go U1 (fun i _ h => h)
 exact ⟨_, rfl, bp, g, ay, qo, ag, ae, hF⟩
theorem aaY {s : Gs.iV} {A : Option Addr} {n cp bp bs B0 : Nat} {bk : Nat} {st why tn last : Int} {ins : Bool} {w : World} (ay : Z.h w bs #[Z.i s.r0, Z.i s.c0, Z.i s.r1, Z.i s.c1, Z.i s.wh, Z.p bp] 89) (ag : Z.h w bp #[Z.i s.r, Z.i s.c, .slice A n cp, Z.i s.cur] 91) (ae : Own B0 w 37 5 (.slice A n cp) (rows Gs.cv s.cs)) (hS : Gs.Sw n s) (hB0 : B0 ≤ w.heap.size) (aC : Z.h w bk #[Z.p bs, Z.i st, Z.i why, Z.i tn, .bool ins, Z.u last] 95) {x : Int} (hst : st = 1) :
    oX 49 #[Z.p bk, Z.u x] w fun e w' => ∃ v, e = .returned v ∧ v = .tuple #[.bool true, Z.i 0] ∧ ∃ t' : Int, Z.h w' bk #[Z.p bs, Z.i 2, Z.i 0, Z.i t', .bool false, Z.u x] 95 ∧ ∃ (bp' : Nat) (A' : Option Addr) (n' cp' : Nat), Z.h w' bs #[Z.i (if x = 109 then Gs.bT s 0 else s).r0, Z.i (if x = 109 then Gs.bT s 0 else s).c0, Z.i (if x = 109 then Gs.bT s 0 else s).r1, Z.i (if x = 109 then Gs.bT s 0 else s).c1, Z.i (if x = 109 then Gs.bT s 0 else s).wh, Z.p bp'] 89 ∧ Z.h w' bp' #[Z.i (if x = 109 then Gs.bT s 0 else s).r, Z.i (if x = 109 then Gs.bT s 0 else s).c, .slice A' n' cp', Z.i (if x = 109 then Gs.bT s 0 else s).cur] 91 ∧ Own B0 w' 37 5 (.slice A' n' cp') (rows Gs.cv (if x = 109 then Gs.bT s 0 else s).cs) ∧ n' = (if x = 109 then Gs.bT s 0 else s).cs.length ∧ (bp' = bp ∨ w.heap.size ≤ bp') ∧ (∀ k, aH (.slice A' n' cp') k → aH (.slice A n cp) k ∨ w.heap.size ≤ k) ∧ aA (fun k => ((aH (.slice A n cp) k ∨ k = bp) ∨ k = bs) ∨ k = bk) w w' := by
 refine F49.calls ?_
 unfold F49
 have hW := hS.2
 obtain ⟨hn, hcw, hcu, hp, hN, hb⟩ := id hW
 have hF : aA (fun k => ((aH (.slice A n cp) k ∨ k = bp) ∨ k = bs) ∨ k = bk) w w := Fr.refl _ _ _
 refine dw ?_
 refine Z.f 1 ?_
 refine aN (WH aC hst) (fun v1 w1 D1 => ?_)
 obtain ⟨rfl, t10, N1, U1⟩ := D1
 replace ae := ae.aG U1 (Own.aS ae (by assumption) (by decide))
 replace ay := U1.aj ay (by exact dP (by assumption) (by assumption) (by decide))
 replace ag := U1.aj ag (by exact dP (by assumption) (by assumption) (by decide))
 replace aC := N1
 replace hF := hF.go U1 (fun i _ h => .inr h)
 refine jq (jQ _ _ _ _ _) (fun h => h rfl) ?_
 refine aF ?_
 refine dw ?_
 refine Z.f 4 ?_
 refine Z.s aC (fun w2 aC _ U2 => ?_)
 replace ae := ae.aG U2 (Own.aS ae (by assumption) (by decide))
 replace ay := U2.aj ay (by exact dP (by assumption) (by assumption) (by decide))
 replace ag := U2.aj ag (by exact dP (by assumption) (by assumption) (by decide))
 replace hF := hF.go U2 (fun i _ h => .inr h)
 refine dw ?_
 refine Z.f 5 ?_
 refine Z.s aC (fun w3 aC _ U3 => ?_)
 replace ae := ae.aG U3 (Own.aS ae (by assumption) (by decide))
 replace ay := U3.aj ay (by exact dP (by assumption) (by assumption) (by decide))
 replace ag := U3.aj ag (by exact dP (by assumption) (by assumption) (by decide))
 replace hF := hF.go U3 (fun i _ h => .inr h)
 refine bP (fun g w' => ∃ (bp1 : Nat) (A1 : Option Addr) (n1 : Nat) (cp1 : Nat), (Z.h w' bk #[Z.p bs, Z.i 2, Z.i 0, Z.i t10, .bool false, Z.u x] 95) ∧ (Z.h w' bs #[Z.i (if x = 109 then Gs.bT s 0 else s).r0, Z.i (if x = 109 then Gs.bT s 0 else s).c0, Z.i (if x = 109 then Gs.bT s 0 else s).r1, Z.i (if x = 109 then Gs.bT s 0 else s).c1, Z.i (if x = 109 then Gs.bT s 0 else s).wh, Z.p bp1] 89) ∧ (Z.h w' bp1 #[Z.i (if x = 109 then Gs.bT s 0 else s).r, Z.i (if x = 109 then Gs.bT s 0 else s).c, .slice A1 n1 cp1, Z.i (if x = 109 then Gs.bT s 0 else s).cur] 91) ∧ (Own B0 w' 37 5 (.slice A1 n1 cp1) (rows Gs.cv (if x = 109 then Gs.bT s 0 else s).cs)) ∧ (n1 = (if x = 109 then Gs.bT s 0 else s).cs.length) ∧ (bp1 = bp ∨ w.heap.size ≤ bp1) ∧ (∀ k, aH (.slice A1 n1 cp1) k → aH (.slice A n cp) k ∨ w.heap.size ≤ k) ∧ (aA (fun k => ((aH (.slice A n cp) k ∨ k = bp) ∨ k = bs) ∨ k = bk) w w')) (fun J1 hJ1 => ?_) (fun gJ1 jK hI => ?_)
 refine az (cu _ _ _ _ _) (fun h4 => ?_) (fun h4 => ?_)
 refine aK ?_
 refine dw ?_
 refine Z.f 0 ?_
 refine Z.l aC ?_
 refine aN (Ve ay hS.1.1 hS.1.2) (fun v5 w5 D5 => ?_)
 obtain ⟨bp2, g2, N5, gbp2, uy, jS, U5⟩ := D5
 have Dj : w.heap.size ≤ bp2 := by have := hF.size; omega
 replace jS := jS.mono (B' := w.heap.size) hF.size
 replace aC := U5.aj aC (by exact dP (by assumption) (by assumption) (by decide))
 replace ay := N5
 replace hF := hF.go U5 (fun i _ h => .inl (.inr h))
 refine hJ1 _ _ ?_
 rw [show (if x = 109 then Gs.bT s 0 else s) = Gs.bT s 0 from if_pos (by assumption)]; exact ⟨bp2, some ⟨g2, 0, none⟩, _, _, aC, ay, uy, jS.mono hB0, rfl, .inr Dj, (fun k hk => .inr (Own.ge jS hk).1), hF⟩
 refine aF ?_
 refine hJ1 _ _ ?_
 rw [show (if x = 109 then Gs.bT s 0 else s) = s from if_neg (by assumption)]; exact ⟨bp, A, n, cp, aC, ay, ag, ae, hn, .inl rfl, (fun k hk => .inl hk), hF⟩
 obtain ⟨bp1, A1, n1, cp1, aC, ay, ag, ae, hn1, hbp1, hov1, hF⟩ := hI
 exact ⟨_, rfl, rfl, _, aC, bp1, A1, n1, cp1, ay, ag, ae, hn1, hbp1, hov1, hF⟩
theorem Jr {bk bs : Nat} {st why tn last : Int} {ins : Bool} {q : Gs.wz} {w : World} (aC : Z.h w bk #[Z.p bs, Z.i st, Z.i why, Z.i tn, .bool ins, Z.u last] 95) (hst : 1 ≤ st ∧ st ≤ 3)  :
    oX 26 #[Z.p bk, .agg (Gs.re q).toArray] w fun e w' => ∃ v, e = .returned v ∧ ∃ (st' why' tn' last' : Int) (ins' : Bool), Z.h w' bk #[Z.p bs, Z.i st', Z.i why', Z.i tn', .bool ins', Z.u last'] 95 ∧ (1 ≤ st' ∧ st' ≤ 3) ∧ (q.rs = true → st' = 1 ∧ ins' = false) ∧ (q.rs = false → st' = st ∧ ins' = ins) ∧ aA (· = bk) w w' := by
 refine F26.calls ?_
 unfold F26
 have hF : aA (· = bk) w w := Fr.refl _ _ _
 refine Z.x ((Gs.re q).toArray) (fun b1 w1 e1 ah _ U1 => ?_)
 refine Z.f 1 ?_
 refine pW (kT (by kernel_rfl) ah (by rfl)) (fun h2 => ?_) (fun h2 => ?_)
 refine aK ?_
 refine dw ?_
 refine Z.f 1 ?_
 replace aC := U1.af aC
 refine aN (Ny aC hst) (fun v3 w3 D3 => ?_)
 obtain ⟨q9, why1, tn1, rfl, N3, U3⟩ := D3
 replace aC := N3
 replace hF := hF.go0 U1
 replace hF := hF.go U3 (fun i _ h => h)
 refine dw ?_
 refine Z.f 4 ?_
 refine Z.s aC (fun w4 aC _ U4 => ?_)
 replace hF := hF.go U4 (fun i _ h => h)
 refine dw ?_
 refine Z.f 5 ?_
 refine Z.s aC (fun w5 aC _ U5 => ?_)
 replace hF := hF.go U5 (fun i _ h => h)
 exact ⟨_, rfl, _, _, _, _, _, aC, (by decide : (1 : Int) ≤ 1 ∧ (1 : Int) ≤ 3), (fun _ => ⟨rfl, rfl⟩), (fun h => by simp_all), hF⟩
 refine aF ?_
 replace aC := U1.af aC
 replace hF := hF.go0 U1
 exact ⟨_, rfl, _, _, _, _, _, aC, hst, (fun h => by simp_all), (fun _ => ⟨rfl, rfl⟩), hF⟩
theorem Vf {s : Gs.iV} {A : Option Addr} {n cp bp bs B0 : Nat} {bk : Nat} {st why tn last : Int} {ins : Bool} {w : World} (ay : Z.h w bs #[Z.i s.r0, Z.i s.c0, Z.i s.r1, Z.i s.c1, Z.i s.wh, Z.p bp] 89) (ag : Z.h w bp #[Z.i s.r, Z.i s.c, .slice A n cp, Z.i s.cur] 91) (ae : Own B0 w 37 5 (.slice A n cp) (rows Gs.cv s.cs)) (hS : Gs.Sw n s) (hB0 : B0 ≤ w.heap.size) (aC : Z.h w bk #[Z.p bs, Z.i st, Z.i why, Z.i tn, .bool ins, Z.u last] 95) {x : Int} (hxb : 0 ≤ x ∧ x ≤ 255) :
    oX 18 #[Z.p bk, .agg #[Z.i 17, Z.u x]] w fun e w' => ∃ v, e = .returned v ∧ ∃ (q : Bool) (e st' why' tn' last' : Int) (ins' : Bool), v = .tuple #[.bool q, Z.i e] ∧ ((q = true ∧ e = 0 ∧ st = 1 ∧ ¬ Gs.zF x = ⟨#[]⟩ ∧ st' = 2 ∧ ins' = false ∧ last' = x) ∨ (q = false ∧ ¬ e = 0 ∧ st' = st ∧ ins' = ins ∧ last' = last ∧ ¬ (st = 1 ∧ ¬ Gs.zF x = ⟨#[]⟩))) ∧ Z.h w' bk #[Z.p bs, Z.i st', Z.i why', Z.i tn', .bool ins', Z.u last'] 95 ∧ ∃ (bp' : Nat) (A' : Option Addr) (n' cp' : Nat), Z.h w' bs #[Z.i (if q = true ∧ x = 109 then Gs.bT s 0 else s).r0, Z.i (if q = true ∧ x = 109 then Gs.bT s 0 else s).c0, Z.i (if q = true ∧ x = 109 then Gs.bT s 0 else s).r1, Z.i (if q = true ∧ x = 109 then Gs.bT s 0 else s).c1, Z.i (if q = true ∧ x = 109 then Gs.bT s 0 else s).wh, Z.p bp'] 89 ∧ Z.h w' bp' #[Z.i (if q = true ∧ x = 109 then Gs.bT s 0 else s).r, Z.i (if q = true ∧ x = 109 then Gs.bT s 0 else s).c, .slice A' n' cp', Z.i (if q = true ∧ x = 109 then Gs.bT s 0 else s).cur] 91 ∧ Own B0 w' 37 5 (.slice A' n' cp') (rows Gs.cv (if q = true ∧ x = 109 then Gs.bT s 0 else s).cs) ∧ n' = (if q = true ∧ x = 109 then Gs.bT s 0 else s).cs.length ∧ (bp' = bp ∨ w.heap.size ≤ bp') ∧ (∀ k, aH (.slice A' n' cp') k → aH (.slice A n cp) k ∨ w.heap.size ≤ k) ∧ aA (fun k => ((aH (.slice A n cp) k ∨ k = bp) ∨ k = bs) ∨ k = bk) w w' := by
 refine KO.calls ?_
 unfold KO
 have hW := hS.2
 obtain ⟨hn, hcw, hcu, hp, hN, hb⟩ := id hW
 have hF : aA (fun k => ((aH (.slice A n cp) k ∨ k = bp) ∨ k = bs) ∨ k = bk) w w := Fr.refl _ _ _
 refine Z.x (#[Z.i 17, Z.u x]) (fun b1 w1 e1 ah _ U1 => ?_)
 refine Z.f 0 ?_
 refine Z.l ah ?_
 refine jq (cu _ _ _ _ _) (by decide) ?_
 refine aF ?_
 refine dw ?_
 refine Z.f 1 ?_
 replace aC := U1.af aC
 refine aB (mg aC) (fun w2 U2 => ?_)
 obtain ⟨em, hem⟩ : ∃ em : Int, em = (if st = 1 then 0 else 40) := ⟨_, rfl⟩
 rw [← hem]
 have hem2 : (em = 0 → st = 1) ∧ (st = 1 → em = 0) := by subst hem; split <;> omega
 clear hem
 refine az (jQ _ _ _ _ _) (fun h3 => ?_) (fun h3 => ?_)
 refine aK ?_
 have e1 : (if (true : Bool) = true ∧ x = 109 then Gs.bT s 0 else s) = (if x = 109 then Gs.bT s 0 else s) := by simp
 have e0 : (if (false : Bool) = true ∧ x = 109 then Gs.bT s 0 else s) = s := by simp
 replace ae := (ae.ai U1).ai U2
 replace ay := U2.af (U1.af ay)
 replace ag := U2.af (U1.af ag)
 replace hF := (hF.go0 U1).go0 U2
 replace aC := U2.af aC
 exact ⟨_, rfl, false, _, st, why, tn, last, ins, rfl, .inr ⟨rfl, (by assumption), rfl, rfl, rfl, (fun hq => by (have := hem2.2 hq.1; omega))⟩, aC, bp, A, n, cp, (by rw [e0]; exact ay), (by rw [e0]; exact ag), (by rw [e0]; exact ae), (by rw [e0]; exact hn), .inl rfl, (fun k hk => .inl hk), hF⟩
 refine aF ?_
 replace ah := U2.af ah
 refine Z.b 2 (#[Z.i 17, Z.u x]) ah ?_
 refine dU (Gp (k := 17) hxb) (fun w5 U5 h5 => ?_) (fun w5 U5 h5 => ?_)
 simp only [Z.d, Z.c] at h5
 refine au (kz) ?_
 refine aF ?_
 refine Z.f 0 ?_
 replace ah := U5.af ah
 refine Z.l ah ?_
 refine rD (cu _ _ _ _ _) (rfl) ?_
 refine aK ?_
 refine Z.f 1 ?_
 refine Z.l ah ?_
 replace ae := ((ae.ai U1).ai U2).ai U5
 replace ay := U5.af (U2.af (U1.af ay))
 replace ag := U5.af (U2.af (U1.af ag))
 replace hF := ((hF.go0 U1).go0 U2).go0 U5
 replace aC := U5.af (U2.af aC)
 refine aN (aaY ay ag ae hS (by have := hF.size; omega) aC (x := x) (hem2.1 (Classical.not_not.1 (by assumption)))) (fun v6 w6 D6 => ?_)
 have qF6 := hF.size
 have qF36 := hF.size
 obtain ⟨rfl, tn36, aC, bp36, A36, n36, cp36, ay, acM, XV, hn36, hb36, ho36, U6⟩ := D6
 replace hF := hF.go U6 (fun i hi hs => by exact hs)
 refine Z.e ?_
 refine Z.e ?_
 have e1 : (if (true : Bool) = true ∧ x = 109 then Gs.bT s 0 else s) = (if x = 109 then Gs.bT s 0 else s) := by simp
 have e0 : (if (false : Bool) = true ∧ x = 109 then Gs.bT s 0 else s) = s := by simp
 rw [← e1] at ay acM XV hn36; exact ⟨_, rfl, true, 0, 2, 0, tn36, x, false, rfl, .inl ⟨rfl, rfl, hem2.1 (Classical.not_not.1 (by assumption)), ((show (1 ≤ (17 : Int) ∧ (17 : Int) < 17) ∨ (True ∧ ¬ Gs.zF x = ⟨#[]⟩) by assumption).resolve_left (by omega)).2, rfl, rfl, rfl⟩, aC, bp36, A36, n36, cp36, ay, acM, XV, hn36, hb36.imp id (fun h => by omega), (fun k hk => (ho36 k hk).imp id (fun h => by omega)), hF⟩
 simp only [Z.d, Z.c] at h5
 refine au (nP) ?_
 refine aK ?_
 have e1 : (if (true : Bool) = true ∧ x = 109 then Gs.bT s 0 else s) = (if x = 109 then Gs.bT s 0 else s) := by simp
 have e0 : (if (false : Bool) = true ∧ x = 109 then Gs.bT s 0 else s) = s := by simp
 replace ae := ((ae.ai U1).ai U2).ai U5
 replace ay := U5.af (U2.af (U1.af ay))
 replace ag := U5.af (U2.af (U1.af ag))
 replace hF := ((hF.go0 U1).go0 U2).go0 U5
 replace aC := U5.af (U2.af aC)
 exact ⟨_, rfl, false, _, st, why, tn, last, ins, rfl, .inr ⟨rfl, (by decide), rfl, rfl, rfl, (fun hq => by (have h17 : ¬ ((1 ≤ (17 : Int) ∧ (17 : Int) < 17) ∨ (True ∧ ¬ Gs.zF x = ⟨#[]⟩)) := (by assumption); exact h17 (.inr ⟨trivial, hq.2⟩)))⟩, aC, bp, A, n, cp, (by rw [e0]; exact ay), (by rw [e0]; exact ag), (by rw [e0]; exact ae), (by rw [e0]; exact hn), .inl rfl, (fun k hk => .inl hk), hF⟩
end Go.Proofs.YtjdoakbadehicaaGreatDoor
end
section
namespace Gs
open Go Go.Sh
theorem _root_.Go.Sh.Bs.tail {x : Int} {l : List Int} (h : Bs (x :: l)) : Bs l := fun y hy => h y (List.mem_cons_of_mem _ hy)
theorem _root_.Go.Sh.Bs.head {x : Int} {l : List Int} (h : Bs (x :: l)) : 0 ≤ x ∧ x ≤ 255 := h x (List.mem_cons_self ..)
theorem VA {l r : List Int} {p : Int} (hb : Bs l) (h : kK l = .ok (p, r)) : Bs r := by
 unfold kK at h
 split at h
 ·cases h; exact hb.tail.tail
 ·cases h
theorem P7 {l r : List Int} {c : Int} (hb : Bs l) (h : fB l = .ok (c, r)) : (0 ≤ c ∧ c ≤ 255) ∧ Bs r := by
 rw [dQ h] at hb; exact ⟨hb.head, hb.tail⟩
theorem Ya {l r : List Int} {c : Int} (hb : Bs l) (h : sW l = .ok (c, r)) : (0 ≤ c ∧ c ≤ 255) ∧ Bs r := by
 unfold sW at h
 split at h
 ·cases h
 ·split at h
  ·cases h
  ·cases h; exact ⟨hb.head, hb.tail⟩
theorem MF {k : Int} : ∀ {n : Nat} {l r : List Int} {ps : List Pr}, Bs l → jM k n l = .ok (ps, r) → Bs r
 | 0, l, r, ps, hb, h => by unfold jM at h; cases h; exact hb
 | n + 1, l, r, ps, hb, h => by
  unfold jM at h
  split at h
  ·split at h
   ·cases h
   ·split at h
    ·cases h
    ·rename_i h2
     cases h
     exact MF hb.tail.tail h2
  ·cases h
theorem akZ {l r : List Int} {p d : Int} {g : Bool} (hb : Bs l) (h : tJ l = .ok ((p, d, g), r)) : (0 ≤ d ∧ d ≤ 255) ∧ Bs r := by
 unfold tJ at h
 split at h
 ·cases h
 ·rename_i h1
  have := VA hb h1
  split at h
  ·cases h
  ·rename_i h2
   have := P7 this h2
   split at h
   ·split at h
    ·cases h
    ·rename_i h3
     have := Ya this.2 h3
     cases h; exact this
   ·split at h
    ·cases h; exact this
    ·cases h
theorem ak0 {l r : List Int} {x : iT} (hb : Bs l) (h : jA l = .ok (x, r)) : ((0 ≤ x.b ∧ x.b ≤ 255) ∧ Bs x.ds) ∧ Bs r := by
 unfold jA at h
 split at h
 ·cases h
 ·rename_i c r0
  have z : (0 : Int) ≤ 0 ∧ (0 : Int) ≤ 255 := by decide
  split at h
  ·cases h
   exact ⟨⟨z, fun y hy => hb y ((List.takeWhile_sublist _).subset hy)⟩, fun y hy => hb y ((List.dropWhile_sublist _).subset hy)⟩
  split at h
  ·split at h
   ·cases h
   ·rename_i h1; cases h; exact ⟨⟨z, Bs.nil⟩, VA hb.tail h1⟩
  split at h
  ·split at h
   ·cases h
   ·rename_i h1; cases h; have := P7 hb.tail h1; exact ⟨⟨by dsimp only; omega, Bs.nil⟩, this.2⟩
  split at h
  ·split at h
   ·cases h
   ·rename_i h1
    split at h
    ·cases h
    ·rename_i h2; cases h; exact ⟨⟨z, Bs.nil⟩, MF (P7 hb.tail h1).2 h2⟩
  split at h
  ·split at h
   ·cases h
   ·rename_i h2; cases h; exact ⟨⟨z, Bs.nil⟩, MF hb.tail h2⟩
  split at h
  ·cases h; exact ⟨⟨z, Bs.nil⟩, hb.tail⟩
  split at h
  ·split at h
   ·cases h
   ·rename_i h1; cases h; have := akZ hb.tail h1; exact ⟨⟨this.1, Bs.nil⟩, this.2⟩
  split at h
  ·split at h
   ·cases h
   ·rename_i h1; cases h; have := Ya hb.tail h1; exact ⟨⟨this.1, Bs.nil⟩, this.2⟩
  ·cases h
theorem Q9 : ∀ (m : Nat) (l : List Int), l.length ≤ m → Bs l → sQ (iI l).1
 | 0, l, hl, _ => by
  obtain rfl := List.length_eq_zero_iff.1 (Nat.le_zero.1 hl)
  rw [rZ]; exact fun o h => by cases h
 | m + 1, l, hl, hb => by
  by_cases h0 : l = []
  ·subst h0; rw [rZ]; exact fun o h => by cases h
  ·cases h : jA l with
   | error e => rw [Jy h0 h]; exact fun o h => by cases h
   | ok x =>
    obtain ⟨x, r⟩ := x
    rw [Ae h0 h]
    have h1 := ak0 hb h
    have h2 := L8 h
    intro o ho
    rcases List.mem_cons.1 ho with rfl | ho
    ·exact h1.1
    ·exact Q9 m r (by omega) h1.2 o ho
def CmW (c : qW) : Prop := sQ c.c.os ∧ ∀ f ∈ c.fs, sQ f.c.os
theorem sQ.nil : sQ [] := fun o h => by cases h
theorem ak1 {P : List Int → qW × Int} (hP : ∀ b, Bs b → CmW (P b).1) {b : List Int} {f : sN} (hb : Bs b) (h : Es P b = some f) : sQ f.c.os := by
 unfold Es at h
 split at h
 ·rename_i x r
  split at h
  ·unfold DD at h
   split at h
   ·split at h
    ·cases h; exact sQ.nil
    ·cases h
   ·cases h
  split at h
  ·unfold zZ at h
   split at h
   ·split at h
    ·cases h; exact sQ.nil
    ·cases h
   ·cases h
  split at h
  ·unfold writeM' at h
   split at h
   ·rename_i y z t
    split at h
    ·cases h
     exact (hP (z :: t) hb.tail.tail).1
    ·cases h
   ·cases h
  ·cases h
 ·cases h
theorem ak2 {l x r : List Int} (hb : Bs l) (h : AC l = some (x, r)) : Bs x ∧ Bs r := by
 unfold AC at h
 split at h
 ·split at h
  ·cases h
  ·cases h
   exact ⟨fun y hy => hb y (List.mem_of_mem_drop (List.mem_of_mem_take hy)), fun y hy => hb y (List.mem_of_mem_drop hy)⟩
 ·cases h
theorem Rf {P : List Int → qW × Int} (hP : ∀ b, Bs b → CmW (P b).1) : ∀ (m : Nat) (b : List Int), b.length ≤ m → Bs b → ∀ f ∈ (jG P b).1, sQ f.c.os
 | 0, b, hl, _, f, hf => by
  obtain rfl := List.length_eq_zero_iff.1 (Nat.le_zero.1 hl)
  rw [su] at hf; cases hf
 | m + 1, b, hl, hb, f, hf => by
  by_cases h0 : b = []
  ·subst h0; rw [su] at hf; cases hf
  ·rw [jG, if_neg h0] at hf
   split at hf
   ·cases hf
   ·rename_i x r hc
    have hl2 := vH hc
    have hw := ak2 hb hc
    split at hf
    ·cases hf
    ·rename_i g hg
     rcases List.mem_cons.1 hf with rfl | hf
     ·exact ak1 hP hw.1 hg
     ·exact Rf hP m r (by omega) hw.2 f hf
theorem Rh : ∀ (N : Nat) (b : List Int), Bs b → CmW (gZ N b).1
 | 0, b, _ => ⟨sQ.nil, fun f h => by cases h⟩
 | N + 1, b, hb => by
  unfold gZ
  split
  ·exact ⟨sQ.nil, fun f h => by cases h⟩
  ·rename_i x r
   split
   ·exact ⟨sQ.nil, fun f h => by cases h⟩
   ·split
    ·split
     ·exact ⟨sQ.nil, fun f h => by cases h⟩
     ·rename_i w r'
      exact ⟨Q9 r'.length r' (Nat.le_refl _) hb.tail.tail, fun f h => by cases h⟩
    ·split
     ·exact ⟨sQ.nil, fun f hf => Rf (Rh N) r.length r (Nat.le_refl _) hb.tail f hf⟩
     ·exact ⟨sQ.nil, fun f h => by cases h⟩
theorem Sw.ug {n : Nat} {s : iV} (h : Sw n s) {c : qW} (hw : CmW c) : Sw (Gs.Aw s c).1.cs.length (Gs.Aw s c).1 := by
 unfold Gs.Aw
 split
 ·exact h.fields hw.2
 ·exact h.Yb hw.1
theorem Sw.run {n : Nat} {s : iV} (h : Sw n s) {b : List Int} (hb : Bs b) : Sw (zq s b).1.cs.length (zq s b).1 := by
 unfold zq Fz
 split
 ·exact h.ug (Rh _ _ hb)
 ·exact h.len
def One (r c : Int) (s : iV) : Prop := (s.r0 = r ∧ s.c0 = c) ∧ (s.r1 = r ∧ s.c1 = c) ∧ s.r = r ∧ s.c = c
section
variable {r c : Int} {s : iV}
theorem One.renew (h : One r c s) (wh : Int) : One r c (bT s wh) := by
 obtain ⟨⟨rfl, rfl⟩, ⟨h1, h2⟩, h3, h4⟩ := h
 unfold bT
 split
 ·exact ⟨⟨rfl, rfl⟩, ⟨h1, h2⟩, rfl, rfl⟩
 ·exact ⟨⟨rfl, rfl⟩, ⟨h1, h2⟩, h1, h2⟩
theorem One.erase (h : One r c s) (x : sS) (wh : Int) : One r c (iY s x wh).1 := h.renew wh
theorem One.Yb (h : One r c s) (x : sS) : One r c (o7 s x).1 := by
 unfold o7
 split
 ·exact h
 split
 ·exact h.erase x 0
 split
 ·exact h.erase x 1
 split
 ·exact h
 split <;> exact h
theorem One.field (h : One r c s) (f : sN) : One r c (fQ s f).1 := by
 unfold fQ
 split
 ·exact h
 split
 ·exact h.renew _
 ·exact h.Yb _
theorem One.fields {e : Int} : ∀ {fs : List sN} {s : iV} {o : wz}, One r c s → One r c (lu e fs s o).1
 | [], s, o, h => h
 | f :: fs, s, o, h => by
  unfold lu
  split
  ·exact One.fields (h.field f)
  ·exact h.field f
theorem One.run (h : One r c s) (b : List Int) : One r c (zq s b).1 := by
 unfold zq
 split
 ·unfold Gs.Aw
  split
  ·exact h.fields
  ·exact h.Yb _
 ·exact h
end
structure lh where
 A : Option Addr
 cp : Nat
 b : List Int
 k : Int
 x : Int
def de (d : lh) : List Value := [.slice d.A d.b.length d.cp, .int .i64 d.k, .int .u8 d.x]
theorem afX : Enc de 3 := ⟨fun _ => rfl, fun a u hu => by
 simp only [de, List.mem_cons, List.mem_nil_iff, or_false] at hu
 rcases hu with rfl | rfl | rfl <;> rfl, by decide⟩
def Dw1 (d : lh) : Prop := d.b.length ≤ d.cp ∧ Bs d.b ∧ (0 ≤ d.x ∧ d.x ≤ 255)
def H9 (l : List lh) : Prop := ∀ d ∈ l, Dw1 d
theorem H9.get {l : List lh} (h : H9 l) {k : Nat} {x : lh} (hx : l[k]? = some x) : Dw1 x := h x (List.mem_of_getElem? hx)
def sO (w : World) (l : List lh) : Prop := ∀ d ∈ l, Rd w d.A (vals .u8 d.b)
def VB (l : List lh) (k : Nat) : Prop := ∃ d ∈ l, d.b ≠ [] ∧ fC d.A k
def XW (l : List lh) (B : Nat) : Prop := l = [] ∨ ∀ k, VB l k → k < B
theorem XW.ne {l : List lh} {B : Nat} (h : XW l B) {b : Nat} (hb : B ≤ b) : l = [] ∨ ∀ k, VB l k → k ≠ b := h.imp_right fun h k hk => by have := h k hk; omega
theorem sO.lt {w : World} {l : List lh} (h : sO w l) : XW l w.heap.size := .inr fun k ⟨d, hd, hne, hk⟩ => by
 rcases (h d hd).lt with h2 | h2
 ·exact absurd (List.map_eq_nil_iff.1 h2) hne
 ·exact h2 k hk
theorem sO.dY {S : Nat → Prop} {w w' : World} {l : List lh} (h : sO w l) (u : aA S w w') (hs : l = [] ∨ ∀ k, VB l k → ¬ S k) : sO w' l := by
 intro d hd
 by_cases hne : d.b = []
 ·rw [hne]; exact .inl rfl
 ·refine (h d hd).dY u ?_
  rcases hs with rfl | hs
  ·cases hd
  ·exact .inr fun k hk => hs k ⟨d, hd, hne, hk⟩
theorem sO.ai {w w' : World} {l : List lh} (h : sO w l) (u : aA no w w') : sO w' l := h.dY u (.inr fun _ _ => id)
theorem sO.aG {w w' : World} {l : List lh} {b : Nat} (h : sO w l) (u : aA (· = b) w w') (hs : l = [] ∨ ∀ k, VB l k → k ≠ b) : sO w' l := h.dY u hs
theorem sO.apart {w : World} {l : List lh} (h : sO w l) {b : Nat} (hb : b = w.heap.size) : l = [] ∨ ∀ k, VB l k → k ≠ b := h.lt.imp_right fun h k hk => by have := h k hk; omega
theorem sO.get {w : World} {l : List lh} (h : sO w l) {k : Nat} {x : lh} (hx : l[k]? = some x) : Rd w x.A (vals .u8 x.b) := h x (List.mem_of_getElem? hx)
theorem Vh {l : List lh} {i : Nat} {x : lh} {S : Nat → Prop} (h : l = [] ∨ ∀ k, VB l k → S k) (hx : l[i]? = some x) : vals .u8 x.b = [] ∨ ∀ k, fC x.A k → S k := by
 by_cases hne : x.b = []
 ·left; rw [hne]; rfl
 ·right
  intro k hk
  rcases h with rfl | h
  ·simp at hx
  ·exact h k ⟨x, List.mem_of_getElem? hx, hne, hk⟩
end Gs
namespace Gs
open Go Go.Sh
theorem Sw.ifr {n : Nat} {s : iV} (h : Sw n s) (p : Prop) [Decidable p] : Sw (if p then bT s 0 else s).cs.length (if p then bT s 0 else s) := by
 split
 ·exact h.renew 0
 ·exact h.len
theorem One.ifr {r c : Int} {s : iV} (h : One r c s) (p : Prop) [Decidable p] : One r c (if p then bT s 0 else s) := by
 split
 ·exact h.renew 0
 ·exact h
def TA (r c : Int) : iV := ⟨r, c, r, c, 0, r, c, GR r c, 0⟩
theorem aeE (r c : Int) : One r c (TA r c) := ⟨⟨rfl, rfl⟩, ⟨rfl, rfl⟩, rfl, rfl⟩
theorem acN {r c : Int} (h : aZ r c ≠ 0) : Sw (aZ r c).toNat (TA r c) := ⟨⟨h, h⟩, Pw.new h⟩
def zJ (r c : Int) (ds : List lh) : Prop := aZ r c ≠ 0 ∧ aZ r c ≤ 60 ∧ ds.length ≤ 20 ∧ ∀ d ∈ ds, d.b.length ≤ 150
theorem zJ.no {r c : Int} {ds : List lh} {k : Nat} {d : lh} (h : ds[k]? = some d) (hd : 150 < d.b.length) : ¬ zJ r c ds := fun h2 => by
 have := h2.2.2.2 d (List.mem_of_getElem? h); omega
def upto (ds : List lh) (k : Nat) : Prop := ∀ d ∈ ds.take k, d.b.length ≤ 150
theorem akw (ds : List lh) : upto ds 0 := fun d h => by rw [List.take_zero] at h; cases h
theorem QN {ds : List lh} {k : Nat} {x : lh} (h : upto ds k) (hx : ds[k]? = some x) (hl : x.b.length ≤ 150) : upto ds (k + 1) := fun d hd => by
 rw [List.take_add_one, hx] at hd
 rcases List.mem_append.1 hd with hd | hd
 ·exact h d hd
 ·rw [show d = x by simpa using hd]; exact hl
theorem upto_all {ds : List lh} {k : Nat} (h : upto ds k) (hk : ds.length ≤ k) : ∀ d ∈ ds, d.b.length ≤ 150 := fun d hd => h d (by rw [List.take_of_length_le hk]; exact hd)
end Gs
namespace Go.Sh
open Go
theorem Ie.EE {A : Option Addr} {xs ys : List Value} {B : Nat} {w : World} {e size : Nat} {v : Value} (h : Ie A xs B) (o : Own B w e size v ys) : xs = [] ∨ ∀ k, fC A k → ¬ aH v k := h.imp_right fun h k hk hs => by
 have := h k hk
 have := (Own.ge o hs).1
 omega
theorem _root_.Gs.XW.EE {l : List Gs.lh} {ys : List Value} {B : Nat} {w : World} {e size : Nat} {v : Value} (h : Gs.XW l B) (o : Own B w e size v ys) : l = [] ∨ ∀ k, Gs.VB l k → ¬ aH v k := h.imp_right fun h k hk hs => by
 have := h k hk
 have := (Own.ge o hs).1
 omega
end Go.Sh
namespace Gs
open Go Go.Sh
def kv (a : Int × Int) : List Value := [.int .i64 a.1, .int .u8 a.2]
def Kw (a : Int × Int) : Prop := 0 ≤ a.2 ∧ a.2 ≤ 255
end Gs
end
section
namespace Go.Proofs.YtjdoakbadehicaaGreatDoor
open Go Go.Sh
set_option maxRecDepth 100000
theorem aeB {s : Gs.iV} {A : Option Addr} {n cp bp bs B0 : Nat} {bk : Nat} {st why tn last : Int} {ins : Bool} {w : World} (ay : Z.h w bs #[Z.i s.r0, Z.i s.c0, Z.i s.r1, Z.i s.c1, Z.i s.wh, Z.p bp] 89) (ag : Z.h w bp #[Z.i s.r, Z.i s.c, .slice A n cp, Z.i s.cur] 91) (ae : Own B0 w 37 5 (.slice A n cp) (rows Gs.cv s.cs)) (hS : Gs.Sw n s) (hB0 : B0 ≤ w.heap.size) (aC : Z.h w bk #[Z.p bs, Z.i st, Z.i why, Z.i tn, .bool ins, Z.u last] 95) {k x : Int} (hxb : 0 ≤ x ∧ x ≤ 255) (hst : 1 ≤ st ∧ st ≤ 3) {r c : Int} (hone : Gs.One r c s) :
    oX 18 #[Z.p bk, .agg #[Z.i k, Z.u x]] w fun e w' => ∃ v, e = .returned v ∧ ∃ (st' why' tn' last' : Int) (ins' : Bool) (s' : Gs.iV) (bp' : Nat) (A' : Option Addr) (n' cp' : Nat), (1 ≤ st' ∧ st' ≤ 3) ∧ Gs.Sw n' s' ∧ Gs.One r c s' ∧ Z.h w' bk #[Z.p bs, Z.i st', Z.i why', Z.i tn', .bool ins', Z.u last'] 95 ∧ Z.h w' bs #[Z.i s'.r0, Z.i s'.c0, Z.i s'.r1, Z.i s'.c1, Z.i s'.wh, Z.p bp'] 89 ∧ Z.h w' bp' #[Z.i s'.r, Z.i s'.c, .slice A' n' cp', Z.i s'.cur] 91 ∧ Own B0 w' 37 5 (.slice A' n' cp') (rows Gs.cv s'.cs) ∧ (bp' = bp ∨ w.heap.size ≤ bp') ∧ (∀ k, aH (.slice A' n' cp') k → aH (.slice A n cp) k ∨ w.heap.size ≤ k) ∧ aA (fun k => ((aH (.slice A n cp) k ∨ k = bp) ∨ k = bs) ∨ k = bk) w w' := by
 by_cases hk : k = 17
 subst hk
 refine (Vf ay ag ae hS hB0 aC hxb).mono fun e w' D => ?_
 obtain ⟨v, hv, q, er, st', why', tn', last', ins', -, hd, hbk, bp', A', n', cp', h1, h2, h3, h4, h5, h6, hU⟩ := D
 exact ⟨v, hv, st', why', tn', last', ins', _, bp', A', n', cp', by omega, h4 ▸ hS.ifr _, hone.ifr _, hbk, h1, h2, h3, h5, h6, hU⟩
 refine (CO ag ae hS.2 aC ay hxb hk hst).mono fun e w' D => ?_
 obtain ⟨v, hv, er, st', why', tn', ins', c1, cur1, -, hs, hW, -, h1, h2, h3, hU⟩ := D
 exact ⟨v, hv, st', why', tn', last, ins', { s with cs := c1, cur := cur1 }, bp, A, n, cp, hs, ⟨hS.1, hW⟩, hone, h3, hU.get ay (fun hs => by
   rcases hs with (hs | hs) | hs
   · have := ak ay; exact Own.aS ae ay (by decide) _ hs rfl
   · subst hs; have e := Option.some.inj (ay.symm.trans ag); injection e with e1 e2; exact absurd e2 (by decide)
   · subst hs; have e := Option.some.inj (ay.symm.trans aC); injection e with e1 e2; exact absurd e2 (by decide)), h1, h2, .inl rfl, fun k hk => .inl hk, hU.mono (Nat.le_refl _) (fun i _ h => h.elim (fun h => .inl (.inl h)) .inr)⟩
theorem aaZ {r0 c0 r1 c1 : Int} {w : World} (hz : Gs.aZ r0 c0 = 0) :
    oX 12 #[.agg #[Z.i r0, Z.i c0], .agg #[Z.i r1, Z.i c1]] w fun e w' => e = .returned (.tuple #[.pointer none, Z.i 1]) ∧ aA no w w' := by
 refine Xp.calls ?_
 unfold Xp
 have hF : aA no w w := Fr.refl _ _ _
 refine Z.x (#[Z.i r0, Z.i c0]) (fun b1 w1 e1 ah _ U1 => ?_)
 refine Z.x (#[Z.i r1, Z.i c1]) (fun b2 w2 e2 ax _ U2 => ?_)
 replace ah := U2.af ah
 refine Z.b 2 (#[Z.i r0, Z.i c0]) ah ?_
 refine aB (qK (r := r0) (c := c0)) (fun w3 U3 => ?_)
 refine rD (cu _ _ _ _ _) (hz) ?_
 refine bu (bu (bu (aU (aK ?_))))
 replace hF := ((hF.go0 U1).go0 U2).go0 U3
 exact ⟨rfl, hF⟩
theorem Vg {r c : Int} {ds : List Gs.lh} {dA : Option Addr} {dc : Nat} {w : World} (hz : Gs.aZ r c = 0) :
    oX 22 #[.agg #[Z.i r, Z.i c], .slice dA ds.length dc] w fun e w' => e = .returned (.tuple #[.pointer none, .pointer none, .bool false]) ∧ aA no w w' := by
 refine Xw.calls ?_
 unfold Xw
 have hF : aA no w w := Fr.refl _ _ _
 refine Z.x (#[Z.i r, Z.i c]) (fun b1 w1 e1 ah _ U1 => ?_)
 refine Z.b 2 (#[Z.i r, Z.i c]) ah ?_
 refine Z.b 2 (#[Z.i r, Z.i c]) ah ?_
 refine aB (aaZ (r1 := r) (c1 := c) hz) (fun w2 U2 => ?_)
 refine Z.e ?_
 refine Z.e ?_
 refine rD (jQ _ _ _ _ _) (by decide) ?_
 refine bu (bu (bu (bu (aU (bu (bu (bu (aU (aK ?_)))))))))
 replace hF := (hF.go0 U1).go0 U2
 exact ⟨rfl, hF⟩
set_option maxHeartbeats 4000000 in
theorem Js {r c : Int} {ds : List Gs.lh} {dA : Option Addr} {dc : Nat} {w : World} (gm : Rd w dA (rows Gs.de ds)) (gu : Gs.sO w ds) (hdw : Gs.H9 ds) (hdn : ds.length ≤ maxLen) (hz : Gs.aZ r c ≠ 0) :
    oX 22 #[.agg #[Z.i r, Z.i c], .slice dA ds.length dc] w fun e w' => ∃ v, e = .returned v ∧ ((¬ Gs.zJ r c ds ∧ v = .tuple #[.pointer none, .pointer none, .bool false] ∧ aA no w w') ∨ (Gs.zJ r c ds ∧ ∃ (s : Gs.iV) (bs bk bp : Nat) (A : Option Addr) (n cp : Nat) (st why tn last : Int) (ins : Bool), v = .tuple #[Z.p bs, Z.p bk, .bool true] ∧ w.heap.size ≤ bs ∧ w.heap.size ≤ bk ∧ w.heap.size ≤ bp ∧ (1 ≤ st ∧ st ≤ 3) ∧ Gs.Sw n s ∧ Gs.One r c s ∧ n ≤ 60 ∧ Z.h w' bk #[Z.p bs, Z.i st, Z.i why, Z.i tn, .bool ins, Z.u last] 95 ∧ Z.h w' bs #[Z.i s.r0, Z.i s.c0, Z.i s.r1, Z.i s.c1, Z.i s.wh, Z.p bp] 89 ∧ Z.h w' bp #[Z.i s.r, Z.i s.c, .slice A n cp, Z.i s.cur] 91 ∧ Own w.heap.size w' 37 5 (.slice A n cp) (rows Gs.cv s.cs) ∧ aA no w w')) := by
 refine Xw.calls ?_
 unfold Xw
 obtain ⟨B0, hB0⟩ : ∃ B, B = w.heap.size := ⟨_, rfl⟩
 have hldd : Ie dA (rows Gs.de ds) B0 := hB0 ▸ gm.lt
 have hlde : Gs.XW ds B0 := hB0 ▸ gu.lt
 have hcb := Gs.zK r c
 have hF : aA no w w := Fr.refl _ _ _
 refine Z.x (#[Z.i r, Z.i c]) (fun b1 w1 e1 ah _ U1 => ?_)
 refine Z.b 2 (#[Z.i r, Z.i c]) ah ?_
 refine Z.b 2 (#[Z.i r, Z.i c]) ah ?_
 refine aN (NZ (r0 := r) (c0 := c) (r1 := r) (c1 := c) hz hz) (fun v2 w2 D2 => ?_)
 obtain ⟨bs, bp, gg, rfl, gbs, gbp, ay, ag, ae, U2⟩ := D2
 replace hF := hF.go0 U1
 have ajN := hF.size
 have gBs : B0 ≤ bs := by omega
 have gBp : B0 ≤ bp := by omega
 replace gm := gm.ai U1
 have yu := (gm.lt).ne (b := bs) (by omega)
 replace gu := gu.ai U1
 have yw := (gu.lt).ne (b := bs) (by omega)
 replace ae := ae.mono (B' := w.heap.size) hF.size
 refine Z.e ?_
 refine Z.e ?_
 refine jq (jQ _ _ _ _ _) (fun h => h rfl) ?_
 refine bz (bz ?_)
 refine aB (iL ay) (fun w3 U3 => ?_)
 refine bz ?_
 replace ae := ae.ai U3
 replace ag := U3.af ag
 refine aB (fK ag ae List.length_replicate.symm) (fun w4 U4 => ?_)
 refine bz ?_
 refine az (gtr _ _ _ _) (fun h5 => ?_) (fun h5 => ?_)
 refine aT (bu (bu (bu (aU (aK ?_)))))
 replace hF := ((hF.go0 U2).go0 U3).go0 U4
 exact ⟨_, rfl, .inl ⟨fun hd => by have := hd.2.1; have := hd.2.2.1; omega, rfl, hF⟩⟩
 refine aT (bz (bz ?_))
 refine au (gK (by kernel_rfl) _ _ _) ?_
 refine bz ?_
 refine az (gtr _ _ _ _) (fun h7 => ?_) (fun h7 => ?_)
 refine aT (aK ?_)
 replace hF := ((hF.go0 U2).go0 U3).go0 U4
 exact ⟨_, rfl, .inl ⟨fun hd => by have := hd.2.1; have := hd.2.2.1; omega, rfl, hF⟩⟩
 refine aT (aF ?_)
 refine aN (aeC (bs := bs)) (fun v9 w9 D9 => ?_)
 obtain ⟨bk, rfl, gbk, aC, U9⟩ := D9
 replace hF := ((hF.go0 U2).go0 U3).go0 U4
 have gBk : B0 ≤ bk := by have := hF.size; omega
 replace gm := ((gm.ai U2).ai U3).ai U4
 have rP := (gm.lt).ne (b := bk) (by omega)
 replace gu := ((gu.ai U2).ai U3).ai U4
 have rQ := (gu.lt).ne (b := bk) (by omega)
 replace ay := U4.af (U3.af ay)
 have GV : bs ≠ bk := by have := ak ay; omega
 replace ag := U4.af ag
 have aeD : bp ≠ bk := by have := ak ag; omega
 replace ae := ae.ai U4
 have WI : ∀ k, aH _ k → k ≠ bk := fun k hk => by have := (Own.ge ae hk).2; omega
 have Ef : w.heap.size ≤ bk := by have := hF.size; omega
 refine aB (wC aC) (fun w10 aW => ?_)
 replace aC := aW.af aC
 refine aN (zQ aC) (fun v11 nT D11 => ?_)
 obtain ⟨t35, N11, bJ⟩ := D11
 replace aC := N11
 replace ae := ((ae.ai U9).ai aW).aG bJ WI
 replace ae := ae.mono (B' := B0) (by omega)
 have hS := Gs.acN hz
 have hone := Gs.aeE r c
 have hst0 : (1 : Int) ≤ 1 ∧ (1 : Int) ≤ 3 := by decide
 refine bP (fun g w' => ∃ (s1 : Gs.iV) (bp1 : Nat) (A1 : Option Addr) (n1 : Nat) (cp1 : Nat) (st1 : Int) (why1 : Int) (tn1 : Int) (last1 : Int) (ins1 : Bool), (Gs.upto ds ds.length) ∧ (Gs.Sw n1 s1) ∧ (Gs.One r c s1) ∧ (1 ≤ st1 ∧ st1 ≤ 3) ∧ (B0 ≤ bp1) ∧ (Z.h w' bs #[Z.i s1.r0, Z.i s1.c0, Z.i s1.r1, Z.i s1.c1, Z.i s1.wh, Z.p bp1] 89) ∧ (Z.h w' bp1 #[Z.i s1.r, Z.i s1.c, .slice A1 n1 cp1, Z.i s1.cur] 91) ∧ (Own B0 w' 37 5 (.slice A1 n1 cp1) (rows Gs.cv s1.cs)) ∧ (Z.h w' bk #[Z.p bs, Z.i st1, Z.i why1, Z.i tn1, .bool ins1, Z.u last1] 95) ∧ (Rd w' dA (rows Gs.de ds)) ∧ (Gs.sO w' ds) ∧ (aA no w w')) (fun J1 hJ1 => ?_) (fun gJ1 jK hI => ?_)
 refine au (gK (by kernel_rfl) _ _ _) ?_
 refine eF (fun g w' => ∃ (k : Nat) (s1 : Gs.iV) (bp1 : Nat) (A1 : Option Addr) (n1 : Nat) (cp1 : Nat) (st1 : Int) (why1 : Int) (tn1 : Int) (last1 : Int) (ins1 : Bool), (g 38 = Z.i (k : Int)) ∧ (k ≤ ds.length) ∧ (Gs.upto ds k) ∧ (Gs.Sw n1 s1) ∧ (Gs.One r c s1) ∧ (1 ≤ st1 ∧ st1 ≤ 3) ∧ (B0 ≤ bp1) ∧ (Z.h w' bs #[Z.i s1.r0, Z.i s1.c0, Z.i s1.r1, Z.i s1.c1, Z.i s1.wh, Z.p bp1] 89) ∧ (Z.h w' bp1 #[Z.i s1.r, Z.i s1.c, .slice A1 n1 cp1, Z.i s1.cur] 91) ∧ (Own B0 w' 37 5 (.slice A1 n1 cp1) (rows Gs.cv s1.cs)) ∧ (Z.h w' bk #[Z.p bs, Z.i st1, Z.i why1, Z.i tn1, .bool ins1, Z.u last1] 95) ∧ (Rd w' dA (rows Gs.de ds)) ∧ (Gs.sO w' ds) ∧ (aA no w w')) (fun g w' => ds.length - (RowKit.intOf (g 38)).toNat) ?_ (fun g2 qI hI => ?_)
 replace gm := ((gm.ai U9).ai aW).aG bJ rP
 replace gu := ((gu.ai U9).ai aW).aG bJ rQ
 replace ay := bJ.aj (aW.af (U9.af ay)) GV
 replace ag := bJ.aj (aW.af (U9.af ag)) aeD
 replace hF := ((hF.go0 U9).go0 aW).go1 bJ Ef
 exact ⟨0, Gs.TA r c, bp, _, _, _, 1, 0, _, 96, false, (by rfl), Nat.zero_le _, (Gs.akw ds), hS, hone, hst0, gBp, ay, ag, ae, aC, gm, gu, hF⟩
 replace gm := ((gm.ai U9).ai aW).aG bJ rP
 replace gu := ((gu.ai U9).ai aW).aG bJ rQ
 replace ay := bJ.aj (aW.af (U9.af ay)) GV
 replace hF := ((hF.go0 U9).go0 aW).go1 bJ Ef
 obtain ⟨k, s1, bp1, A1, n1, cp1, st1, why1, tn1, last1, ins1, g38, hk, hup, hS1, hone1, hst1, gBp1, ay, nY, jr, aC, gm, gu, hF⟩ := hI
 rw [g38]
 refine az (lss _ _ _ _) (fun h12 => ?_) (fun h12 => ?_)
 refine aK ?_
 refine bP (fun g w' => ∃ (s2 : Gs.iV) (bp2 : Nat) (A2 : Option Addr) (n2 : Nat) (cp2 : Nat) (st2 : Int) (why2 : Int) (tn2 : Int) (last2 : Int) (ins2 : Bool), (Z.h w' bs #[Z.i s2.r0, Z.i s2.c0, Z.i s2.r1, Z.i s2.c1, Z.i s2.wh, Z.p bp2] 89) ∧ (Z.h w' bp2 #[Z.i s2.r, Z.i s2.c, .slice A2 n2 cp2, Z.i s2.cur] 91) ∧ (Own B0 w' 37 5 (.slice A2 n2 cp2) (rows Gs.cv s2.cs)) ∧ (Z.h w' bk #[Z.p bs, Z.i st2, Z.i why2, Z.i tn2, .bool ins2, Z.u last2] 95) ∧ (Gs.upto ds (k + 1)) ∧ (Gs.Sw n2 s2) ∧ (Gs.One r c s2) ∧ (1 ≤ st2 ∧ st2 ≤ 3) ∧ (B0 ≤ bp2) ∧ (Rd w' dA (rows Gs.de ds)) ∧ (Gs.sO w' ds) ∧ (aA no w w')) (fun J3 hJ3 => ?_) (fun gJ3 KN hI => ?_)
 refine uh Gs.afX (by kernel_rfl) (by kernel_rfl) gm (by rfl) (by omega) (by omega) (fun Xj Cj => ?_)
 simp only [Int.toNat_natCast] at Cj
 have hdx := hdw.get Cj
 refine Z.n (#[.slice none 0 0, Z.i 0, Z.u 0]) (fun b14 sJ e14 dN _ dm => ?_)
 have Ar : bs ≠ b14 := by have := ak ay; omega
 have Oa : bp1 ≠ b14 := by have := ak nY; omega
 have Ig := jr.apart e14
 have QM : bk ≠ b14 := by have := ak aC; omega
 have Ob := gm.apart e14
 have Oc := gu.apart e14
 have pM : w.heap.size ≤ b14 := by have := hF.size; omega
 refine Z.t 3 ((Gs.de Xj).toArray) (by (simp [Value.cells, Value.oneCell', Gs.cv, Gs.fv, Gs.ie, Gs.pe, Gs.oe, Gs.cZ, Gs.fe, Gs.fE, Gs.ce, Gs.dZ, Gs.re, Gs.de]; done)) dN (fun tX dN _ bU => ?_)
 refine Z.f 0 ?_
 refine Z.l dN ?_
 refine au (gK (by kernel_rfl) _ _ _) ?_
 refine az (gtr _ _ _ _) (fun h16 => ?_) (fun h16 => ?_)
 refine aK ?_
 replace hF := (hF.go0 dm).go1 bU pM
 exact ⟨_, rfl, .inl ⟨Gs.zJ.no Cj (by omega), rfl, hF⟩⟩
 refine aF ?_
 refine Z.f 0 ?_
 refine Z.l dN ?_
 refine au (gK (by kernel_rfl) _ _ _) ?_
 refine az (gtr _ _ _ _) (fun h18 => ?_) (fun h18 => ?_)
 refine aK ?_
 refine Z.f 0 ?_
 refine Z.l dN ?_
 replace jr := (jr.ai dm).aG bU Ig
 replace gu := (gu.ai dm).aG bU Oc
 replace ay := bU.aj (dm.af ay) Ar
 replace nY := bU.aj (dm.af nY) Oa
 replace hF := (hF.go0 dm).go1 bU pM
 refine aN (Ee (b := Xj.b) ay nY jr hS1 (by have := hF.size; omega) (gu.get Cj) rfl hdx.1 hdx.2.1 (by omega) (Gs.Vh (hlde.EE jr) Cj) (Gs.Vh (hlde.ne gBp1) Cj) (Gs.Vh (hlde.ne gBs) Cj)) (fun v19 Aa D19 => ?_)
 have qO := jr
 have adM := hF.size
 have aoG := hF.size
 obtain ⟨rfl, bp54, A54, n54, cp54, ay, Dl, wM, hn54, hb54, ho54, eX⟩ := D19
 replace aC := bU.aj (dm.af aC) QM
 replace aC := eX.get aC (fun hs => by rcases hs with (hs | hs) | hs <;> first | (first | exact Own.aS qO aC (by decide) _ hs rfl | (have := Own.ge qO hs; omega)) | (exact absurd hs (by first | omega | exact dP (by assumption) (by assumption) (by decide))))
 replace gm := (gm.ai dm).aG bU Ob
 replace gm := gm.dY eX ((hldd.EE jr).elim .inl fun h0 => (hldd.ne gBp1).elim .inl fun h1 => yu.elim .inl fun h2 => .inr fun k hk hs => by rcases hs with (hs | hs) | hs <;> first | exact h0 k hk hs | exact h1 k hk hs | exact h2 k hk hs)
 replace gu := gu.dY eX ((hlde.EE jr).elim .inl fun h0 => (hlde.ne gBp1).elim .inl fun h1 => yw.elim .inl fun h2 => .inr fun k hk hs => by rcases hs with (hs | hs) | hs <;> first | exact h0 k hk hs | exact h1 k hk hs | exact h2 k hk hs)
 replace hF := hF.go eX (fun i hi hs => Or.elim hs (fun hs => Or.elim hs (fun hs => absurd hi (by have := (Own.ge jr hs).1; omega)) (fun hs => absurd hi (by have e : i = bp1 := hs; omega))) (fun hs => absurd hi (by have e : i = bs := hs; omega)))
 clear qO
 refine aN (Jr aC hst1) (fun v20 wY D20 => ?_)
 obtain ⟨st, why, tn, last, ins, N20, hst, hq1_55, hq0_55, dR⟩ := D20
 replace wM := wM.aG dR (Own.aS wM (by assumption) (by decide))
 replace Dl := dR.aj Dl (by exact dP (by assumption) (by assumption) (by decide))
 replace aC := N20
 refine hJ3 _ _ ?_
 replace gm := gm.aG dR rP
 replace gu := gu.aG dR rQ
 replace ay := dR.aj ay GV
 replace hF := hF.go1 dR Ef
 exact ⟨_, _, _, _, _, _, _, _, _, _, ay, (by exact Dl), (by exact wM), aC, (Gs.QN hup Cj (by omega)), (by (rw [hn54]; exact hS1.run hdx.2.1)), (by exact hone1.run _), (by exact hst), (by exact hb54.elim (fun h => h.symm ▸ gBp1) (fun h => by omega)), gm, gu, hF⟩
 refine aF ?_
 refine Z.f 1 ?_
 refine Z.b 2 _ dN ?_
 replace jr := (jr.ai dm).aG bU Ig
 replace ay := bU.aj (dm.af ay) Ar
 replace nY := bU.aj (dm.af nY) Oa
 replace aC := bU.aj (dm.af aC) QM
 replace hF := (hF.go0 dm).go1 bU pM
 refine aN (aeB ay nY jr hS1 (by have := hF.size; omega) aC (k := Xj.k) hdx.2.2 hst1 hone1) (fun v21 BQ D21 => ?_)
 have qF21 := hF.size
 have O1 := hF.size
 obtain ⟨st59, why59, tn59, last59, ins59, s59, bp59, A59, n59, cp59, hst59, hS59, hone59, aC, ay, akx, ah7, hb59, ho59, dV⟩ := D21
 replace gm := (gm.ai dm).aG bU Ob
 replace gm := gm.dY dV ((hldd.EE jr).elim .inl fun h0 => (hldd.ne gBp1).elim .inl fun h1 => yu.elim .inl fun h2 => rP.elim .inl fun h3 => .inr fun k hk hs => by rcases hs with ((hs | hs) | hs) | hs <;> first | exact h0 k hk hs | exact h1 k hk hs | exact h2 k hk hs | exact h3 k hk hs)
 replace gu := (gu.ai dm).aG bU Oc
 replace gu := gu.dY dV ((hlde.EE jr).elim .inl fun h0 => (hlde.ne gBp1).elim .inl fun h1 => yw.elim .inl fun h2 => rQ.elim .inl fun h3 => .inr fun k hk hs => by rcases hs with ((hs | hs) | hs) | hs <;> first | exact h0 k hk hs | exact h1 k hk hs | exact h2 k hk hs | exact h3 k hk hs)
 replace hF := hF.go dV (fun i hi hs => Or.elim hs (fun hs => Or.elim hs (fun hs => Or.elim hs (fun hs => absurd hi (by have := (Own.ge jr hs).1; omega)) (fun hs => absurd hi (by have e : i = bp1 := hs; omega))) (fun hs => absurd hi (by have e : i = bs := hs; omega))) (fun hs => absurd hi (by have e : i = bk := hs; omega)))
 refine hJ3 _ _ ?_
 exact ⟨_, _, _, _, _, _, _, _, _, _, ay, (by exact akx), (by exact ah7), aC, (Gs.QN hup Cj (by omega)), (by exact hS59), (by exact hone59), (by exact hst59), (by exact hb59.elim (fun h => h.symm ▸ gBp1) (fun h => by omega)), gm, gu, hF⟩
 obtain ⟨s2, bp2, A2, n2, cp2, st2, why2, tn2, last2, ins2, ay, uy, jS, aC, hup2, hS2, hone2, hst2, gBp2, gm, gu, hF⟩ := hI
 refine au (dL _ (by omega)) ?_
 exact ⟨⟨k + 1, s2, bp2, A2, n2, cp2, st2, why2, tn2, last2, ins2, (by rfl), by omega, hup2, hS2, hone2, hst2, gBp2, ay, uy, jS, aC, gm, gu, hF⟩, cnt_lt (by rfl) rfl (by omega)⟩
 refine aF ?_
 refine hJ1 _ _ ?_
 exact ⟨_, _, _, _, _, _, _, _, _, _, (by rw [show ds.length = k by omega]; exact hup), hS1, hone1, hst1, gBp1, ay, nY, jr, aC, gm, gu, hF⟩
 replace gm := ((gm.ai U9).ai aW).aG bJ rP
 replace gu := ((gu.ai U9).ai aW).aG bJ rQ
 replace ay := bJ.aj (aW.af (U9.af ay)) GV
 replace hF := ((hF.go0 U9).go0 aW).go1 bJ Ef
 obtain ⟨s1, bp1, A1, n1, cp1, st1, why1, tn1, last1, ins1, hup, hS1, hone1, hst1, gBp1, ay, nY, jr, aC, gm, gu, hF⟩ := hI
 exact ⟨_, rfl, .inr ⟨⟨hz, by omega, by omega, Gs.upto_all hup (Nat.le_refl _)⟩, s1, bs, bk, bp1, A1, n1, cp1, st1, why1, tn1, last1, ins1, rfl, hB0 ▸ gBs, hB0 ▸ gBk, hB0 ▸ gBp1, hst1, hS1, hone1, by have := hS1.2.2.2.2.2.1; rw [hone1.2.2.1, hone1.2.2.2] at this; omega, aC, ay, nY, hB0 ▸ jr, hF⟩⟩
theorem Oe {r c : Int} {ds : List Gs.lh} {dA : Option Addr} {dc : Nat} {w : World} (gm : Rd w dA (rows Gs.de ds)) (gu : Gs.sO w ds) (hdw : Gs.H9 ds) (hdn : ds.length ≤ maxLen) (h : ¬ Gs.zJ r c ds) :
    oX 22 #[.agg #[Z.i r, Z.i c], .slice dA ds.length dc] w fun e w' => e = .returned (.tuple #[.pointer none, .pointer none, .bool false]) ∧ aA no w w' := by
 by_cases hz : Gs.aZ r c = 0
 exact Vg hz
 refine (Js gm gu hdw hdn hz).mono fun e w' D => ?_
 obtain ⟨v, rfl, ⟨_, rfl, hU⟩ | ⟨h2, _⟩⟩ := D
 exact ⟨rfl, hU⟩
 exact absurd h2 h
theorem Og {r c : Int} {ds : List Gs.lh} {dA : Option Addr} {dc : Nat} {w : World} (gm : Rd w dA (rows Gs.de ds)) (gu : Gs.sO w ds) (hdw : Gs.H9 ds) (hdn : ds.length ≤ maxLen) (h : Gs.zJ r c ds) :
    oX 22 #[.agg #[Z.i r, Z.i c], .slice dA ds.length dc] w fun e w' => ∃ v, e = .returned v ∧ ∃ (s : Gs.iV) (bs bk bp : Nat) (A : Option Addr) (n cp : Nat) (st why tn last : Int) (ins : Bool), v = .tuple #[Z.p bs, Z.p bk, .bool true] ∧ w.heap.size ≤ bs ∧ w.heap.size ≤ bk ∧ w.heap.size ≤ bp ∧ (1 ≤ st ∧ st ≤ 3) ∧ Gs.Sw n s ∧ Gs.One r c s ∧ n ≤ 60 ∧ Z.h w' bk #[Z.p bs, Z.i st, Z.i why, Z.i tn, .bool ins, Z.u last] 95 ∧ Z.h w' bs #[Z.i s.r0, Z.i s.c0, Z.i s.r1, Z.i s.c1, Z.i s.wh, Z.p bp] 89 ∧ Z.h w' bp #[Z.i s.r, Z.i s.c, .slice A n cp, Z.i s.cur] 91 ∧ Own w.heap.size w' 37 5 (.slice A n cp) (rows Gs.cv s.cs) ∧ aA no w w' := by
 refine (Js gm gu hdw hdn h.1).mono fun e w' D => ?_
 obtain ⟨v, rfl, ⟨h2, _⟩ | ⟨_, hD⟩⟩ := D
 exact absurd h h2
 exact ⟨v, rfl, hD⟩
end Go.Proofs.YtjdoakbadehicaaGreatDoor
end
section
namespace Gs
open Go Go.Sh
def PY (cs : List Cell) (l : List Int) : List Cell := (l.map (bK cs)).filter fun c => !qh c
def OA (cs : List Cell) : List (Int × List Cell) :=
 if allM cs = [] then (if PY cs (ji cs) = [] then [] else [(-1, PY cs (ji cs))])
 else ((allM cs).filter EC).map fun f => ((f.s + 1) % cs.length, PY cs (iJ cs.length f))
theorem aba (cs : List Cell) (l : List Int) : Jj cs l = (PY cs l).map Fe := rfl
theorem X6 (cs : List Cell) : NW cs = (OA cs).map fun y => (y.1, y.2.map Fe) := by
 unfold NW OA
 split
 ·rw [aba]
  by_cases h : PY cs (ji cs) = []
  ·rw [if_pos h, if_pos (by rw [h]; rfl)]; rfl
  ·rw [if_neg h, if_neg (fun e => h (List.map_eq_nil_iff.1 e))]; rfl
 ·rw [List.map_map]; rfl
structure Q5 (cs : List Cell) (l m : List It) : Prop where
 a : its l = NW cs
 b : its m = OA cs
section
variable {cs : List Cell} {l m : List It} {k : Nat} {x y : It}
theorem PZ (h : l[k]? = some x) : (its l)[k]? = some (x.at', x.cs) := by unfold its; rw [List.getElem?_map, h]; rfl
theorem Q5.len (h : Q5 cs l m) : l.length = m.length := by
 have h1 := congrArg List.length h.a
 rw [X6, ← h.b, List.length_map, JZ, JZ] at h1
 exact h1
theorem Q5.eq (h : Q5 cs l m) (hx : l[k]? = some x) (hy : m[k]? = some y) : x.at' = y.at' ∧ x.cs = y.cs.map Fe := by
 have h1 := PZ hx
 rw [h.a, X6, ← h.b, List.getElem?_map, PZ hy] at h1
 have h2 := Option.some.inj h1
 exact ⟨(congrArg Prod.fst h2).symm, (congrArg Prod.snd h2).symm⟩
theorem Q5.cell (h : Q5 cs l m) (hx : l[k]? = some x) (hy : m[k]? = some y) {j : Nat} {c d : Cell} (hc : x.cs[j]? = some c) (hd : y.cs[j]? = some d) : c = Fe d := by
 rw [(h.eq hx hy).2, List.getElem?_map, hd] at hc
 exact (Option.some.inj hc).symm
end
theorem aiJ {cs : List Cell} {y : Int × List Cell} (h : y ∈ OA cs) : ∀ d ∈ y.2, d.st = false := by
 have key : ∀ {l : List Int}, (∀ i ∈ l, (bK cs i).st = false) → ∀ d ∈ PY cs l, d.st = false := fun hl d hd => by
  obtain ⟨i, hi, rfl⟩ := List.mem_map.1 (List.mem_filter.1 hd).1
  exact hl i hi
 unfold OA at h
 split at h
 ·rename_i ha
  split at h
  ·cases h
  ·cases List.mem_singleton.1 h; exact key (aaD ha)
 ·obtain ⟨f, hf, rfl⟩ := List.mem_map.1 h
  obtain ⟨k, hk⟩ := List.getElem?_of_mem (List.mem_filter.1 hf).1
  exact key (Qx hk)
theorem Q5.st {cs : List Cell} {l m : List It} {k j : Nat} {y : It} {d : Cell} (h : Q5 cs l m) (hy : m[k]? = some y) (hd : y.cs[j]? = some d) : d.st = false :=
 aiJ (y := (y.at', y.cs)) (h.b ▸ List.mem_of_getElem? (PZ hy)) d (List.mem_of_getElem? hd)
end Gs
end
section
namespace Go.Proofs.YtjdoakbadehicaaGreatDoor
open Go Go.Sh
set_option maxRecDepth 100000
end Go.Proofs.YtjdoakbadehicaaGreatDoor
end
