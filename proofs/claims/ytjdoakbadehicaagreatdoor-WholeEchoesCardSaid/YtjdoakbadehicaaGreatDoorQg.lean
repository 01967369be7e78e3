/- Part of a proof. No condition but those that its theorems state. -/
import Derived.Test.YtjdoakbadehicaaGreatDoorQd
import Derived.Test.YtjdoakbadehicaaGreatDoorQf
import Derived.Test.YtjdoakbadehicaaGreatDoorQc
set_option linter.unusedVariables false
set_option linter.unusedSimpArgs false
section
namespace Go.Proofs.YtjdoakbadehicaaGreatDoor
open Go Go.Sh
set_option maxRecDepth 100000
theorem ad1 {r c : Int} {A : Option Addr} {n cp bp bb B0 : Nat} {b : Gs.Br} {w : World} (ag : Z.h w bp #[Z.i r, Z.i c, .slice A n cp, Z.i b.cur] 91) (ae : Own B0 w 37 5 (.slice A n cp) (rows Gs.cv b.cs)) (aO : Z.h w bb #[Z.p bp, Z.i b.at', Z.u b.lk.b, .bool b.lk.ge, .bool b.lk.st, Z.u b.lk.l, Z.u b.lk.c, .bool b.ld] 229) (hB : Gs.Bw r c n b)  :
    oX 204 #[Z.p bb] w fun e w' => ∃ v, e = .returned v ∧ Z.h w' bb #[Z.p bp, Z.i (Gs.EZ b).at', Z.u (Gs.EZ b).lk.b, .bool (Gs.EZ b).lk.ge, .bool (Gs.EZ b).lk.st, Z.u (Gs.EZ b).lk.l, Z.u (Gs.EZ b).lk.c, .bool (Gs.EZ b).ld] 229 ∧ aB (· = bb) w w' := by
 refine abQ.calls ?_
 unfold abQ
 obtain ⟨hW, hat, hlw⟩ := id hB
 obtain ⟨hn, hcw, hcu, hp, hN, hb⟩ := id hW
 have hF : aB (· = bb) w w := Fr.refl _ _ _
 refine dV (S := no) (fun w1 U1 => ?_)
 refine fM ?_
 refine Z.g 0 ?_
 replace aO := U1.af aO
 refine Z.m aO ?_
 replace ae := ae.ai U1
 replace ag := U1.af ag
 refine gQ (fun w' hw' => by have ag := hw'.af ag; have ae := ae.ai hw'; exact kP ag ae hn) ?_
 refine fM ?_
 refine Z.g 1 ?_
 refine Z.m aO ?_
 refine gQ (fun w' hw' => nI (i := b.at') (j := 1)) ?_
 rw [hN, Gs.uf (by omega), hn]
 refine fM ?_
 refine Z.g 1 ?_
 refine aJ (fun w4 U4 => ?_)
 replace aO := U4.af aO
 refine Z.s aO (fun w5 aO _ U5 => ?_)
 replace hF := (hF.go0 U1).go0 U4
 replace hF := hF.go U5 (fun i _ h => h)
 refine aJ (fun w6 U6 => ?_)
 replace aO := U6.af aO
 replace hF := hF.go0 U6
 exact ⟨_, rfl, aO, hF⟩
theorem IE {r c : Int} {A : Option Addr} {n cp bp bb B0 : Nat} {b : Gs.Br} {w : World} (ag : Z.h w bp #[Z.i r, Z.i c, .slice A n cp, Z.i b.cur] 91) (ae : Own B0 w 37 5 (.slice A n cp) (rows Gs.cv b.cs)) (aO : Z.h w bb #[Z.p bp, Z.i b.at', Z.u b.lk.b, .bool b.lk.ge, .bool b.lk.st, Z.u b.lk.l, Z.u b.lk.c, .bool b.ld] 229) (hB : Gs.Bw r c n b) {x : Gs.Cell} (hx : Gs.Cw x) :
    oX 198 #[Z.p bb, .agg (Gs.cv x).toArray] w fun e w' => ∃ v, e = .returned v ∧ Z.h w' bb #[Z.p bp, Z.i (Gs.nJ b x).at', Z.u (Gs.nJ b x).lk.b, .bool (Gs.nJ b x).lk.ge, .bool (Gs.nJ b x).lk.st, Z.u (Gs.nJ b x).lk.l, Z.u (Gs.nJ b x).lk.c, .bool (Gs.nJ b x).ld] 229 ∧ Own B0 w' 37 5 (.slice A n cp) (rows Gs.cv (Gs.nJ b x).cs) ∧ aB (fun k => aG (.slice A n cp) k ∨ k = bb) w w' := by
 refine abM.calls ?_
 unfold abM
 obtain ⟨hW, hat, hlw⟩ := id hB
 obtain ⟨hn, hcw, hcu, hp, hN, hb⟩ := id hW
 have hF : aB (fun k => aG (.slice A n cp) k ∨ k = bb) w w := Fr.refl _ _ _
 refine Z.x ((Gs.cv x).toArray) (fun b1 w1 e1 ah _ U1 => ?_)
 refine dV (S := no) (fun w2 U2 => ?_)
 refine fM ?_
 refine Z.g 0 ?_
 replace aO := U2.af (U1.af aO)
 refine Z.m aO ?_
 refine fM ?_
 refine Z.g 1 ?_
 refine Z.m aO ?_
 replace ah := U2.af ah
 refine bI (fun w' hw' => by have ah := hw'.af ah; exact (CE (n := 5) (cs' := (Gs.cv x).toArray) (by kernel_rfl) ah (Nat.le_of_ble_eq_true rfl) (by rfl))) ?_
 refine aJ (fun w3 U3 => ?_)
 replace ae := ((ae.ai U1).ai U2).ai U3
 replace ag := U3.af (U2.af (U1.af ag))
 refine aI (jZ ag ae hn (i := b.at') (x := x)) (fun v4 w4 D4 => ?_)
 obtain ⟨rfl, N4, U4⟩ := D4
 have aN := ae
 replace ag := U4.get ag (fun h => Own.aT aN ag (by decide) _ h rfl)
 replace ae := N4
 replace aO := U3.af aO
 replace aO := U4.get aO (fun h => Own.aT aN aO (by decide) _ h rfl)
 replace hF := ((hF.go0 U1).go0 U2).go0 U3
 replace hF := hF.go U4 (fun i h hs => .inl hs)
 clear aN
 refine aJ (fun w5 U5 => ?_)
 replace ae := ae.ai U5
 replace ag := U5.af ag
 replace aO := U5.af aO
 refine aI (ad1 (b := { b with cs := Gs.iC b.cs b.at' x }) ag ae aO ⟨hW.set _ hx, hat, hlw⟩) (fun v6 w6 D6 => ?_)
 obtain ⟨N6, U6⟩ := D6
 replace ae := ae.aF U6 (Own.aT ae (by assumption) (by decide))
 replace aO := N6
 replace hF := hF.go0 U5
 replace hF := hF.go U6 (fun i _ h => .inr h)
 have e : (Gs.EZ { b with cs := Gs.iC b.cs b.at' x }).at' = (Gs.nJ b x).at' := by show (b.at' + 1) % ((Gs.iC b.cs b.at' x).length : Int) = _; rw [Gs.mg]; rfl
 rw [e] at aO
 exact ⟨_, rfl, aO, ae, hF⟩
theorem KI {bp bb : Nat} {b : Gs.Br} {w : World} (aO : Z.h w bb #[Z.p bp, Z.i b.at', Z.u b.lk.b, .bool b.lk.ge, .bool b.lk.st, Z.u b.lk.l, Z.u b.lk.c, .bool b.ld] 229) {x : Int} {g : Bool} :
    oX 199 #[Z.p bb, Z.u x, .bool g] w fun e w' => e = .returned (.agg (Gs.cv (Gs.qP b x g)).toArray) ∧ aB no w w' := by
 refine abN.calls ?_
 unfold abN
 have hF : aB no w w := Fr.refl _ _ _
 refine Z.n ((Gs.cv Gs.zc).toArray) (fun b1 w1 e1 ah _ U1 => ?_)
 have bY : w.heap.size ≤ b1 := by have := hF.size; omega
 refine dV (S := no) (fun w2 U2 => ?_)
 refine fM ?_
 refine Z.g 2 ?_
 refine Z.g 3 ?_
 replace aO := U2.af (U1.af aO)
 refine Z.m aO ?_
 refine fM ?_
 refine Z.g 2 ?_
 refine Z.g 4 ?_
 refine Z.m aO ?_
 refine bI (fun w' hw' => (bF (l := [(0, 1), (1, 1), (2, 1), (3, 1), (4, 1)]) (z := #[Z.u 0, .bool false, .bool false, Z.u 0, Z.u 0]) (cs := Gs.cv (Gs.qP b x g)) (by kernel_rfl) (by rfl))) ?_
 refine aJ (fun w4 U4 => ?_)
 replace ah := U4.af (U2.af ah)
 refine Z.t 5 ((Gs.cv (Gs.qP b x g)).toArray) (by (simp [Value.cells, Value.oneCell', Gs.cv, Gs.fv, Gs.ie, Gs.pe, Gs.oe, Gs.cu, Gs.fe, Gs.eY, Gs.ce, Gs.dZ]; done)) ah (fun w5 ah _ U5 => ?_)
 refine aJ (fun w6 U6 => ?_)
 replace ah := U6.af ah
 refine Z.a 5 ah ?_
 replace hF := ((((hF.go0 U1).go0 U2).go0 U4).go1 U5 bY).go0 U6
 exact ⟨rfl, hF⟩
theorem Ed {c : Gs.Cell} {ps : List Gs.Pr} {A : Option Addr} {n cp : Nat} {w : World} (bK : Rd w A (rows Gs.pe ps)) (hn : n = ps.length) (hb : n ≤ 100000) (hpw : ∀ p ∈ ps, Gs.Zd p) :
    oX 200 #[.agg (Gs.cv c).toArray, .slice A n cp] w fun e w' => e = .returned (.agg (Gs.cv (Gs.nN c ps)).toArray) ∧ aB no w w' := by
 refine abO.calls ?_
 unfold abO
 subst hn
 have hF : aB no w w := Fr.refl _ _ _
 refine Z.x ((Gs.cv c).toArray) (fun b1 w1 e1 ah _ U1 => ?_)
 have sW := bK.apart e1
 have bY : w.heap.size ≤ b1 := by have := hF.size; omega
 refine Z.n ((Gs.cv Gs.zc).toArray) (fun b2 w2 e2 ay _ U2 => ?_)
 have mf : b1 ≠ b2 := by have := aj ah; omega
 replace hF := hF.go0 U1
 have fD : w.heap.size ≤ b2 := by have := hF.size; omega
 refine bQ (fun g w' => (Z.h w' b1 ((Gs.cv (Gs.nN c ps)).toArray) 37) ∧ (Z.h w' b2 ((Gs.cv Gs.zc).toArray) 37) ∧ (aB no w w')) (fun J1 hJ1 => ?_) (fun gJ1 jY hI => ?_)
 refine ak (gK (by kernel_rfl) _ _ _) ?_
 refine eG (fun g w' => ∃ (k : Nat), (g 9 = Z.i (k : Int)) ∧ (k ≤ ps.length) ∧ (Z.h w' b1 ((Gs.cv (Gs.nN c (ps.take k))).toArray) 37) ∧ (Z.h w' b2 ((Gs.cv Gs.zc).toArray) 37) ∧ (Rd w' A (rows Gs.pe ps)) ∧ (aB no w w')) (fun g w' => ps.length - (RowKit.intOf (g 9)).toNat) ?_ (fun g2 qW hI => ?_)
 replace bK := (bK.ai U1).ai U2
 replace ah := U2.af ah
 replace hF := hF.go0 U2
 exact ⟨0, (by rfl), Nat.zero_le _, ah, ay, bK, hF⟩
 replace bK := (bK.ai U1).ai U2
 replace ah := U2.af ah
 replace hF := hF.go0 U2
 obtain ⟨k, g9, hk, ah, ay, bK, hF⟩ := hI
 rw [g9]
 refine az (lss _ _ _ _) (fun h3 => ?_) (fun h3 => ?_)
 refine aK ?_
 refine bQ (fun g w' => (Z.h w' b1 ((Gs.cv (Gs.nN c (ps.take (k + 1)))).toArray) 37) ∧ (Z.h w' b2 ((Gs.cv Gs.zc).toArray) 37) ∧ (Rd w' A (rows Gs.pe ps)) ∧ (aB no w w')) (fun J3 hJ3 => ?_) (fun gJ3 KA hI => ?_)
 refine tK Gs.C9 (by kernel_rfl) (by kernel_rfl) bK (by rfl) (by omega) (by omega) (fun x4 hx4 => ?_)
 simp only [Int.toNat_natCast] at hx4
 have hpx := hpw _ (List.mem_of_getElem? hx4)
 have hpv := hpx.2
 refine Z.n ((Gs.pe Gs.zpr).toArray) (fun b5 w5 e5 cO _ U5 => ?_)
 have ik : b1 ≠ b5 := by have := aj ah; omega
 have nU : b2 ≠ b5 := by have := aj ay; omega
 have BL := bK.apart e5
 have iM : w.heap.size ≤ b5 := by have := hF.size; omega
 refine Z.t 2 ((Gs.pe x4).toArray) (by (simp [Value.cells, Value.oneCell', Gs.cv, Gs.fv, Gs.ie, Gs.pe, Gs.oe, Gs.cu, Gs.fe, Gs.eY, Gs.ce, Gs.dZ]; done)) cO (fun w6 cO _ U6 => ?_)
 refine Z.f 0 ?_
 refine Z.l cO ?_
 refine az (dh _ _ _ _ _) (fun h7 => ?_) (fun h7 => ?_)
 refine aK ?_
 refine Z.f 1 ?_
 refine Z.l cO ?_
 refine ak (Dz _ (by omega)) ?_
 refine Z.f 0 ?_
 replace ah := U6.au (U5.af ah) ik
 refine Z.s ah (fun w8 ah _ U8 => ?_)
 refine hJ3 _ _ ?_
 replace bK := ((bK.ai U5).aF U6 BL).aF U8 sW
 replace ay := U8.au (U6.au (U5.af ay) nU) (Ne.symm mf)
 replace hF := ((hF.go0 U5).go1 U6 iM).go1 U8 bY
 exact ⟨(by rw [Gs.zI hx4]; unfold Gs.sV; (rw [if_pos (by assumption)]; exact ah)), ay, bK, hF⟩
 refine aH ?_
 refine az (dh _ _ _ _ _) (fun h9 => ?_) (fun h9 => ?_)
 refine aK ?_
 refine Z.f 1 ?_
 refine Z.l cO ?_
 refine Z.f 3 ?_
 replace ah := U6.au (U5.af ah) ik
 refine Z.s ah (fun w10 ah _ aX => ?_)
 refine hJ3 _ _ ?_
 replace bK := ((bK.ai U5).aF U6 BL).aF aX sW
 replace ay := aX.au (U6.au (U5.af ay) nU) (Ne.symm mf)
 replace hF := ((hF.go0 U5).go1 U6 iM).go1 aX bY
 exact ⟨(by rw [Gs.zI hx4]; unfold Gs.sV; (rw [if_neg (by assumption), if_pos (by assumption)]; exact ah)), ay, bK, hF⟩
 refine aH ?_
 refine az (dh _ _ _ _ _) (fun h11 => ?_) (fun h11 => ?_)
 refine aK ?_
 refine Z.f 1 ?_
 refine Z.l cO ?_
 refine Z.f 4 ?_
 replace ah := U6.au (U5.af ah) ik
 refine Z.s ah (fun w12 ah _ bW => ?_)
 refine hJ3 _ _ ?_
 replace bK := ((bK.ai U5).aF U6 BL).aF bW sW
 replace ay := bW.au (U6.au (U5.af ay) nU) (Ne.symm mf)
 replace hF := ((hF.go0 U5).go1 U6 iM).go1 bW bY
 exact ⟨(by rw [Gs.zI hx4]; unfold Gs.sV; (rw [if_neg (by assumption), if_neg (by assumption), if_pos (by assumption)]; exact ah)), ay, bK, hF⟩
 refine aH ?_
 refine az (dh _ _ _ _ _) (fun h13 => ?_) (fun h13 => ?_)
 refine aK ?_
 refine Z.f 3 ?_
 replace ah := U6.au (U5.af ah) ik
 refine Z.s ah (fun rF ah _ bZ => ?_)
 refine Z.f 4 ?_
 refine Z.s ah (fun ut ah _ bT => ?_)
 refine hJ3 _ _ ?_
 replace bK := (((bK.ai U5).aF U6 BL).aF bZ sW).aF bT sW
 replace ay := bT.au (bZ.au (U6.au (U5.af ay) nU) (Ne.symm mf)) (Ne.symm mf)
 replace hF := (((hF.go0 U5).go1 U6 iM).go1 bZ bY).go1 bT bY
 exact ⟨(by rw [Gs.zI hx4]; unfold Gs.sV; (rw [if_neg (by assumption), if_neg (by assumption), if_neg (by assumption), if_pos (by assumption)]; exact ah)), ay, bK, hF⟩
 refine aH ?_
 refine hJ3 _ _ ?_
 replace bK := (bK.ai U5).aF U6 BL
 replace ah := U6.au (U5.af ah) ik
 replace ay := U6.au (U5.af ay) nU
 replace hF := (hF.go0 U5).go1 U6 iM
 exact ⟨(by rw [Gs.zI hx4]; unfold Gs.sV; (rw [if_neg (by assumption), if_neg (by assumption), if_neg (by assumption), if_neg (by assumption)]; exact ah)), ay, bK, hF⟩
 obtain ⟨ah, ay, bK, hF⟩ := hI
 refine ak (dJ _ (by omega)) ?_
 exact ⟨⟨k + 1, (by rfl), by omega, ah, ay, bK, hF⟩, cnt_lt (by rfl) rfl (by omega)⟩
 refine aH ?_
 refine hJ1 _ _ ?_
 exact ⟨(by rw [List.take_of_length_le (by omega)] at ah; exact ah), ay, hF⟩
 replace ah := U2.af ah
 replace hF := hF.go0 U2
 obtain ⟨ah, ay, hF⟩ := hI
 refine Z.b 5 ((Gs.cv (Gs.nN c ps)).toArray) ah ?_
 refine Z.t 5 ((Gs.cv (Gs.nN c ps)).toArray) (by (simp [Value.cells, Value.oneCell', Gs.cv, Gs.fv, Gs.ie, Gs.pe, Gs.oe, Gs.cu, Gs.fe, Gs.eY, Gs.ce, Gs.dZ]; done)) ay (fun w16 ay _ bU => ?_)
 refine Z.a 5 ay ?_
 replace hF := hF.go1 bU fD
 exact ⟨rfl, hF⟩
theorem ad2 {r c : Int} {A : Option Addr} {n cp bp bb B0 : Nat} {b : Gs.Br} {w : World} (ag : Z.h w bp #[Z.i r, Z.i c, .slice A n cp, Z.i b.cur] 91) (ae : Own B0 w 37 5 (.slice A n cp) (rows Gs.cv b.cs)) (aO : Z.h w bb #[Z.p bp, Z.i b.at', Z.u b.lk.b, .bool b.lk.ge, .bool b.lk.st, Z.u b.lk.l, Z.u b.lk.c, .bool b.ld] 229) (hB : Gs.Bw r c n b) {o : Gs.jc} (dM : Gs.kR w [o]) (hwo : Gs.Ai o) (hlo : o.ds.length ≤ 100000 ∧ o.ps.length ≤ 100000) (na1 : [o] = [] ∨ ∀ k, Gs.jP [o] k → ¬ aG (.slice A n cp) k) (na2 : [o] = [] ∨ ∀ k, Gs.jP [o] k → k ≠ bp) (na3 : [o] = [] ∨ ∀ k, Gs.jP [o] k → k ≠ bb) :
    oX 182 #[Z.p bb, .agg (Gs.oe o).toArray] w fun e w' => ∃ v, e = .returned v ∧ v = Z.i (Gs.yB o.m b).2 ∧ Z.h w' bp #[Z.i r, Z.i c, .slice A n cp, Z.i (Gs.yB o.m b).1.cur] 91 ∧ Own B0 w' 37 5 (.slice A n cp) (rows Gs.cv (Gs.yB o.m b).1.cs) ∧ Z.h w' bb #[Z.p bp, Z.i (Gs.yB o.m b).1.at', Z.u (Gs.yB o.m b).1.lk.b, .bool (Gs.yB o.m b).1.lk.ge, .bool (Gs.yB o.m b).1.lk.st, Z.u (Gs.yB o.m b).1.lk.l, Z.u (Gs.yB o.m b).1.lk.c, .bool (Gs.yB o.m b).1.ld] 229 ∧ aB (fun k => (aG (.slice A n cp) k ∨ k = bp) ∨ k = bb) w w' := by
 refine abA.calls ?_
 unfold abA
 obtain ⟨hW, hat, hlw⟩ := id hB
 obtain ⟨hn, hcw, hcu, hp, hN, hb⟩ := id hW
 obtain ⟨hok, hob, hod, hop⟩ := id hwo
 have hF : aB (fun k => (aG (.slice A n cp) k ∨ k = bp) ∨ k = bb) w w := Fr.refl _ _ _
 refine Z.x ((Gs.oe o).toArray) (fun b1 w1 e1 ah _ U1 => ?_)
 refine bQ (fun g w' => (Z.h w' bp #[Z.i r, Z.i c, .slice A n cp, Z.i (Gs.lL o.ds b).cur] 91) ∧ (Own B0 w' 37 5 (.slice A n cp) (rows Gs.cv (Gs.lL o.ds b).cs)) ∧ (Z.h w' bb #[Z.p bp, Z.i (Gs.lL o.ds b).at', Z.u (Gs.lL o.ds b).lk.b, .bool (Gs.lL o.ds b).lk.ge, .bool (Gs.lL o.ds b).lk.st, Z.u (Gs.lL o.ds b).lk.l, Z.u (Gs.lL o.ds b).lk.c, .bool (Gs.lL o.ds b).ld] 229) ∧ (aB (fun k => (aG (.slice A n cp) k ∨ k = bp) ∨ k = bb) w w')) (fun J1 hJ1 => ?_) (fun gJ1 jY hI => ?_)
 refine Z.f 5 ?_
 refine Z.l ah ?_
 refine ak (gK (by kernel_rfl) _ _ _) ?_
 refine eG (fun g w' => ∃ (k : Nat), (g 10 = Z.i (k : Int)) ∧ (k ≤ o.ds.length) ∧ (Z.h w' bp #[Z.i r, Z.i c, .slice A n cp, Z.i (Gs.lL (o.ds.take k) b).cur] 91) ∧ (Own B0 w' 37 5 (.slice A n cp) (rows Gs.cv (Gs.lL (o.ds.take k) b).cs)) ∧ (Z.h w' bb #[Z.p bp, Z.i (Gs.lL (o.ds.take k) b).at', Z.u (Gs.lL (o.ds.take k) b).lk.b, .bool (Gs.lL (o.ds.take k) b).lk.ge, .bool (Gs.lL (o.ds.take k) b).lk.st, Z.u (Gs.lL (o.ds.take k) b).lk.l, Z.u (Gs.lL (o.ds.take k) b).lk.c, .bool (Gs.lL (o.ds.take k) b).ld] 229) ∧ (Gs.kR w' [o]) ∧ (aB (fun k => (aG (.slice A n cp) k ∨ k = bp) ∨ k = bb) w w')) (fun g w' => o.ds.length - (RowKit.intOf (g 10)).toNat) ?_ (fun g2 qW hI => ?_)
 replace ae := ae.ai U1
 replace dM := dM.ai U1
 replace ag := U1.af ag
 replace aO := U1.af aO
 replace hF := hF.go0 U1
 exact ⟨0, (by rfl), Nat.zero_le _, ag, ae, aO, dM, hF⟩
 replace ae := ae.ai U1
 replace dM := dM.ai U1
 replace ag := U1.af ag
 replace aO := U1.af aO
 replace hF := hF.go0 U1
 obtain ⟨k, g10, hk, ag, ae, aO, dM, hF⟩ := hI
 rw [g10]
 have hBk : Gs.Bw r c n (Gs.lL (o.ds.take k) b) := hB.data (fun x hx => hod x (List.mem_of_mem_take hx))
 have hnk := hBk.hn
 refine az (lss _ _ _ _) (fun h2 => ?_) (fun h2 => ?_)
 refine aK ?_
 refine nC (by kernel_rfl) (by kernel_rfl) dM.d (by rfl) (by omega) (by omega) (fun x3 hx3 => ?_)
 simp only [Int.toNat_natCast] at hx3
 refine aA (KI (b := (Gs.lL (o.ds.take k) b)) aO (x := x3) (g := false)) (fun w4 U4 => ?_)
 replace ae := ae.ai U4
 replace ag := U4.af ag
 replace aO := U4.af aO
 refine aI (IE (b := (Gs.lL (o.ds.take k) b)) ag ae aO hBk (x := Gs.qP (Gs.lL (o.ds.take k) b) x3 false) (Gs.KJ (hod.get hx3) _)) (fun v5 w5 D5 => ?_)
 obtain ⟨M5, N5, U5⟩ := D5
 have aN := ae
 replace ae := N5
 replace dM := dM.ai U4
 replace dM := dM.dO U5 (na1.elim .inl fun h1 => na3.imp_right fun h2 k hk hs => Or.elim (show aG _ _ ∨ _ = _ from hs) (h1 k hk) (fun hb => h2 k hk hb))
 replace ag := U5.get ag (fun hs => Or.elim (show aG _ _ ∨ _ = _ from hs) (fun h => Own.aT aN ag (by decide) _ h rfl) (fun hb => absurd hb (by exact dQ (by assumption) (by assumption) (by decide))))
 replace aO := M5
 replace hF := hF.go0 U4
 replace hF := hF.go U5 (fun i h hs => Or.elim (show aG _ _ ∨ _ = _ from hs) (fun hs => .inl (.inl hs)) (fun hb => by (subst hb; omega)))
 clear aN
 refine ak (dJ _ (by omega)) ?_
 exact ⟨⟨k + 1, (by rfl), by omega, (by rw [Gs.IG hx3]; exact ag), (by rw [Gs.IG hx3]; exact ae), (by rw [Gs.IG hx3]; exact aO), dM, hF⟩, cnt_lt (by rfl) rfl (by omega)⟩
 refine aH ?_
 refine hJ1 _ _ ?_
 exact ⟨(by rw [List.take_of_length_le (by omega)] at ag; exact ag), (by rw [List.take_of_length_le (by omega)] at ae; exact ae), (by rw [List.take_of_length_le (by omega)] at aO; exact aO), hF⟩
 replace ae := ae.ai U1
 replace ag := U1.af ag
 replace aO := U1.af aO
 replace hF := hF.go0 U1
 obtain ⟨ag, ae, aO, hF⟩ := hI
 exact ⟨_, rfl, rfl, ag, ae, aO, hF⟩
theorem WO {r c : Int} {A : Option Addr} {n cp bp bb B0 : Nat} {b : Gs.Br} {w : World} (ag : Z.h w bp #[Z.i r, Z.i c, .slice A n cp, Z.i b.cur] 91) (ae : Own B0 w 37 5 (.slice A n cp) (rows Gs.cv b.cs)) (aO : Z.h w bb #[Z.p bp, Z.i b.at', Z.u b.lk.b, .bool b.lk.ge, .bool b.lk.st, Z.u b.lk.l, Z.u b.lk.c, .bool b.ld] 229) (hB : Gs.Bw r c n b) {o : Gs.jc} (dM : Gs.kR w [o]) (hwo : Gs.Ai o) (hlo : o.ds.length ≤ 100000 ∧ o.ps.length ≤ 100000) (na1 : [o] = [] ∨ ∀ k, Gs.jP [o] k → ¬ aG (.slice A n cp) k) (na2 : [o] = [] ∨ ∀ k, Gs.jP [o] k → k ≠ bp) (na3 : [o] = [] ∨ ∀ k, Gs.jP [o] k → k ≠ bb) :
    oX 183 #[Z.p bb, .agg (Gs.oe o).toArray] w fun e w' => ∃ v, e = .returned v ∧ v = Z.i (Gs.yC o.m b).2 ∧ Z.h w' bp #[Z.i r, Z.i c, .slice A n cp, Z.i (Gs.yC o.m b).1.cur] 91 ∧ Own B0 w' 37 5 (.slice A n cp) (rows Gs.cv (Gs.yC o.m b).1.cs) ∧ Z.h w' bb #[Z.p bp, Z.i (Gs.yC o.m b).1.at', Z.u (Gs.yC o.m b).1.lk.b, .bool (Gs.yC o.m b).1.lk.ge, .bool (Gs.yC o.m b).1.lk.st, Z.u (Gs.yC o.m b).1.lk.l, Z.u (Gs.yC o.m b).1.lk.c, .bool (Gs.yC o.m b).1.ld] 229 ∧ aB (fun k => (aG (.slice A n cp) k ∨ k = bp) ∨ k = bb) w w' := by
 refine abB.calls ?_
 unfold abB
 obtain ⟨hW, hat, hlw⟩ := id hB
 obtain ⟨hn, hcw, hcu, hp, hN, hb⟩ := id hW
 obtain ⟨hok, hob, hod, hop⟩ := id hwo
 have hF : aB (fun k => (aG (.slice A n cp) k ∨ k = bp) ∨ k = bb) w w := Fr.refl _ _ _
 refine Z.x ((Gs.oe o).toArray) (fun b1 w1 e1 ah _ U1 => ?_)
 refine Z.f 2 ?_
 refine Z.l ah ?_
 replace aO := U1.af aO
 refine aA (KI aO (x := o.b) (g := true)) (fun w2 U2 => ?_)
 replace ae := (ae.ai U1).ai U2
 replace ag := U2.af (U1.af ag)
 replace aO := U2.af aO
 refine aI (IE (b := b) ag ae aO hB (x := Gs.qP b o.b true) (Gs.KJ hob _)) (fun v3 w3 D3 => ?_)
 obtain ⟨M3, N3, U3⟩ := D3
 have aN := ae
 replace ae := N3
 replace ag := U3.get ag (fun hs => Or.elim (show aG _ _ ∨ _ = _ from hs) (fun h => Own.aT aN ag (by decide) _ h rfl) (fun hb => absurd hb (by exact dQ (by assumption) (by assumption) (by decide))))
 replace aO := M3
 replace hF := (hF.go0 U1).go0 U2
 replace hF := hF.go U3 (fun i h hs => Or.elim (show aG _ _ ∨ _ = _ from hs) (fun hs => .inl (.inl hs)) (fun hb => by (subst hb; omega)))
 clear aN
 exact ⟨_, rfl, rfl, ag, ae, aO, hF⟩
theorem KL {r c : Int} {A : Option Addr} {n cp bp bb B0 : Nat} {b : Gs.Br} {w : World} (ag : Z.h w bp #[Z.i r, Z.i c, .slice A n cp, Z.i b.cur] 91) (ae : Own B0 w 37 5 (.slice A n cp) (rows Gs.cv b.cs)) (aO : Z.h w bb #[Z.p bp, Z.i b.at', Z.u b.lk.b, .bool b.lk.ge, .bool b.lk.st, Z.u b.lk.l, Z.u b.lk.c, .bool b.ld] 229) (hB : Gs.Bw r c n b) {o : Gs.jc} (dM : Gs.kR w [o]) (hwo : Gs.Ai o) (hlo : o.ds.length ≤ 100000 ∧ o.ps.length ≤ 100000) (na1 : [o] = [] ∨ ∀ k, Gs.jP [o] k → ¬ aG (.slice A n cp) k) (na2 : [o] = [] ∨ ∀ k, Gs.jP [o] k → k ≠ bp) (na3 : [o] = [] ∨ ∀ k, Gs.jP [o] k → k ≠ bb) :
    oX 184 #[Z.p bb, .agg (Gs.oe o).toArray] w fun e w' => ∃ v, e = .returned v ∧ v = Z.i (Gs.pF o.m b).2 ∧ Z.h w' bp #[Z.i r, Z.i c, .slice A n cp, Z.i (Gs.pF o.m b).1.cur] 91 ∧ Own B0 w' 37 5 (.slice A n cp) (rows Gs.cv (Gs.pF o.m b).1.cs) ∧ Z.h w' bb #[Z.p bp, Z.i (Gs.pF o.m b).1.at', Z.u (Gs.pF o.m b).1.lk.b, .bool (Gs.pF o.m b).1.lk.ge, .bool (Gs.pF o.m b).1.lk.st, Z.u (Gs.pF o.m b).1.lk.l, Z.u (Gs.pF o.m b).1.lk.c, .bool (Gs.pF o.m b).1.ld] 229 ∧ aB (fun k => (aG (.slice A n cp) k ∨ k = bp) ∨ k = bb) w w' := by
 refine abC.calls ?_
 unfold abC
 obtain ⟨hW, hat, hlw⟩ := id hB
 obtain ⟨hn, hcw, hcu, hp, hN, hb⟩ := id hW
 have hF : aB (fun k => (aG (.slice A n cp) k ∨ k = bp) ∨ k = bb) w w := Fr.refl _ _ _
 refine Z.x ((Gs.oe o).toArray) (fun b1 w1 e1 ah _ U1 => ?_)
 refine dV (S := no) (fun w2 U2 => ?_)
 refine Z.g 1 ?_
 replace ah := U2.af ah
 refine Z.m ah ?_
 refine lW (fun w' hw' => (lss _ _ _ _)) (fun h3 => ?_) (fun h3 => ?_)
 refine jv (jv (jv (jv (jv (jv (jv (jv (mr ?_))))))))
 refine aJ (fun w4 U4 => ?_)
 refine aK ?_
 replace ae := ((ae.ai U1).ai U2).ai U4
 replace ag := U4.af (U2.af (U1.af ag))
 replace aO := U4.af (U2.af (U1.af aO))
 replace hF := ((hF.go0 U1).go0 U2).go0 U4
 rw [Gs.L6 (o := o.m) (b := b) (by show o.a < 0 ∨ (b.cs.length : Int) ≤ o.a; omega)]; exact ⟨_, rfl, rfl, ag, ae, aO, hF⟩
 refine eX ?_
 refine Z.g 1 ?_
 refine eX ?_
 refine Z.m ah ?_
 refine eX (lQ (eX ?_))
 refine fM ?_
 refine eX ?_
 refine Z.g 0 ?_
 refine eX ?_
 replace aO := U2.af (U1.af aO)
 refine Z.m aO ?_
 refine eX ?_
 replace ae := (ae.ai U1).ai U2
 replace ag := U2.af (U1.af ag)
 refine gQ (fun w' hw' => by have ag := hw'.af ag; have ae := ae.ai hw'; exact fH ag ae hn) ?_
 refine eX ?_
 refine lW (fun w' hw' => (geq _ _ _ _)) (fun h7 => ?_) (fun h7 => ?_)
 refine jL ?_
 refine aJ (fun w8 U8 => ?_)
 refine aK ?_
 replace hF := ((hF.go0 U1).go0 U2).go0 U8
 replace ae := ae.ai U8
 replace ag := U8.af ag
 replace aO := U8.af aO
 rw [Gs.L6 (o := o.m) (b := b) (by show o.a < 0 ∨ (b.cs.length : Int) ≤ o.a; omega)]; exact ⟨_, rfl, rfl, ag, ae, aO, hF⟩
 refine jL ?_
 refine aJ (fun w10 aX => ?_)
 refine aH ?_
 refine Z.f 1 ?_
 replace ah := aX.af ah
 refine Z.l ah ?_
 refine dB ?_
 refine Z.f 1 ?_
 replace aO := aX.af aO
 refine Z.s aO (fun nT aO _ bD => ?_)
 replace ae := ae.ai aX
 replace ae := ae.aF bD (Own.aT ae (by assumption) (by decide))
 replace ag := aX.af ag
 replace ag := bD.au ag (by exact dQ (by assumption) (by assumption) (by decide))
 replace hF := ((hF.go0 U1).go0 U2).go0 aX
 replace hF := hF.go bD (fun i _ h => .inr h)
 rw [Gs.L8 (o := o.m) (b := b) (by show ¬ (o.a < 0 ∨ (b.cs.length : Int) ≤ o.a); omega)]; exact ⟨_, rfl, rfl, ag, ae, aO, hF⟩
theorem acd {r c : Int} {A : Option Addr} {n cp bp bb B0 : Nat} {b : Gs.Br} {w : World} (ag : Z.h w bp #[Z.i r, Z.i c, .slice A n cp, Z.i b.cur] 91) (ae : Own B0 w 37 5 (.slice A n cp) (rows Gs.cv b.cs)) (aO : Z.h w bb #[Z.p bp, Z.i b.at', Z.u b.lk.b, .bool b.lk.ge, .bool b.lk.st, Z.u b.lk.l, Z.u b.lk.c, .bool b.ld] 229) (hB : Gs.Bw r c n b) {o : Gs.jc} (dM : Gs.kR w [o]) (hwo : Gs.Ai o) (hlo : o.ds.length ≤ 100000 ∧ o.ps.length ≤ 100000) (na1 : [o] = [] ∨ ∀ k, Gs.jP [o] k → ¬ aG (.slice A n cp) k) (na2 : [o] = [] ∨ ∀ k, Gs.jP [o] k → k ≠ bp) (na3 : [o] = [] ∨ ∀ k, Gs.jP [o] k → k ≠ bb) :
    oX 185 #[Z.p bb, .agg (Gs.oe o).toArray] w fun e w' => ∃ v, e = .returned v ∧ v = Z.i (Gs.uy o.m b).2 ∧ Z.h w' bp #[Z.i r, Z.i c, .slice A n cp, Z.i (Gs.uy o.m b).1.cur] 91 ∧ Own B0 w' 37 5 (.slice A n cp) (rows Gs.cv (Gs.uy o.m b).1.cs) ∧ Z.h w' bb #[Z.p bp, Z.i (Gs.uy o.m b).1.at', Z.u (Gs.uy o.m b).1.lk.b, .bool (Gs.uy o.m b).1.lk.ge, .bool (Gs.uy o.m b).1.lk.st, Z.u (Gs.uy o.m b).1.lk.l, Z.u (Gs.uy o.m b).1.lk.c, .bool (Gs.uy o.m b).1.ld] 229 ∧ aB (fun k => (aG (.slice A n cp) k ∨ k = bp) ∨ k = bb) w w' := by
 refine abD.calls ?_
 unfold abD
 obtain ⟨hW, hat, hlw⟩ := id hB
 obtain ⟨hn, hcw, hcu, hp, hN, hb⟩ := id hW
 obtain ⟨hok, hob, hod, hop⟩ := id hwo
 have hF : aB (fun k => (aG (.slice A n cp) k ∨ k = bp) ∨ k = bb) w w := Fr.refl _ _ _
 refine Z.x ((Gs.oe o).toArray) (fun b1 w1 e1 ah _ U1 => ?_)
 refine ak (bF (l := [(0, 1), (1, 1), (2, 1), (3, 1), (4, 1)]) (z := #[Z.u 0, .bool false, .bool false, Z.u 0, Z.u 0]) (cs := Gs.cv ⟨0, false, true, 0, 0⟩) (by kernel_rfl) (by rfl)) ?_
 refine Z.n ((Gs.cv Gs.zc).toArray) (fun b3 w3 e3 bG _ U3 => ?_)
 replace ag := U1.af ag
 have lm : bp ≠ b3 := by have := aj ag; omega
 replace ae := ae.ai U1
 have iO := ae.apart e3
 replace aO := U1.af aO
 have Ee : bb ≠ b3 := by have := aj aO; omega
 replace dM := dM.ai U1
 have zh := dM.apart e3
 have mi : b1 ≠ b3 := by have := aj ah; omega
 replace hF := hF.go0 U1
 have jH : w.heap.size ≤ b3 := by have := hF.size; omega
 refine Z.t 5 ((Gs.cv ⟨0, false, true, 0, 0⟩).toArray) (by (simp [Value.cells, Value.oneCell', Gs.cv, Gs.fv, Gs.ie, Gs.pe, Gs.oe, Gs.cu, Gs.fe, Gs.eY, Gs.ce, Gs.dZ]; done)) bG (fun w4 bG _ U4 => ?_)
 refine bQ (fun g w' => ∃ (x : Gs.Cell), (Z.h w' b3 ((Gs.cv x).toArray) 37) ∧ (x = ((if o.k = 29 then ⟨o.b % 64, false, true, 0, 0⟩ else Gs.nN ⟨0, false, true, 0, 0⟩ o.ps) : Gs.Cell)) ∧ (Gs.Cw x) ∧ (Z.h w' bp #[Z.i r, Z.i c, .slice A n cp, Z.i b.cur] 91) ∧ (Own B0 w' 37 5 (.slice A n cp) (rows Gs.cv b.cs)) ∧ (Z.h w' bb #[Z.p bp, Z.i b.at', Z.u b.lk.b, .bool b.lk.ge, .bool b.lk.st, Z.u b.lk.l, Z.u b.lk.c, .bool b.ld] 229) ∧ (aB (fun k => (aG (.slice A n cp) k ∨ k = bp) ∨ k = bb) w w')) (fun J1 hJ1 => ?_) (fun gJ1 jY hI => ?_)
 refine Z.f 0 ?_
 replace ah := U4.au (U3.af ah) mi
 refine Z.l ah ?_
 refine az (dh _ _ _ _ _) (fun h5 => ?_) (fun h5 => ?_)
 refine aK ?_
 refine Z.f 2 ?_
 refine Z.l ah ?_
 refine ak (Dz _ (by omega)) ?_
 refine Z.f 0 ?_
 refine Z.s bG (fun w6 bG _ U6 => ?_)
 refine hJ1 _ _ ?_
 replace ae := ((ae.ai U3).aF U4 iO).aF U6 iO
 replace ag := U6.au (U4.au (U3.af ag) lm) lm
 replace aO := U6.au (U4.au (U3.af aO) Ee) Ee
 replace hF := ((hF.go0 U3).go1 U4 jH).go1 U6 jH
 exact ⟨⟨o.b % 64, false, true, 0, 0⟩, bG, (by rw [if_pos (by assumption)]), (show 0 ≤ o.b % 64 ∧ o.b % 64 ≤ 255 by omega), ag, ae, aO, hF⟩
 refine aH ?_
 refine Z.b 5 ((Gs.cv ⟨0, false, true, 0, 0⟩).toArray) bG ?_
 refine Z.f 4 ?_
 refine Z.l ah ?_
 replace dM := (dM.ai U3).aF U4 zh
 refine aA (Ed (c := ⟨0, false, true, 0, 0⟩) dM.p rfl hlo.2 hop) (fun w7 U7 => ?_)
 replace bG := U7.af bG
 refine Z.t 5 ((Gs.cv (Gs.nN ⟨0, false, true, 0, 0⟩ o.ps)).toArray) (by (simp [Value.cells, Value.oneCell', Gs.cv, Gs.fv, Gs.ie, Gs.pe, Gs.oe, Gs.cu, Gs.fe, Gs.eY, Gs.ce, Gs.dZ]; done)) bG (fun w8 bG _ U8 => ?_)
 refine hJ1 _ _ ?_
 replace ae := (((ae.ai U3).aF U4 iO).ai U7).aF U8 iO
 replace ag := U8.au (U7.af (U4.au (U3.af ag) lm)) lm
 replace aO := U8.au (U7.af (U4.au (U3.af aO) Ee)) Ee
 replace hF := (((hF.go0 U3).go1 U4 jH).go0 U7).go1 U8 jH
 exact ⟨(Gs.nN ⟨0, false, true, 0, 0⟩ o.ps), bG, (by rw [if_neg (by assumption)]), Gs.Ef (show (0 : Int) ≤ 0 ∧ (0 : Int) ≤ 255 by decide), ag, ae, aO, hF⟩
 replace ae := (ae.ai U3).aF U4 iO
 replace ag := U4.au (U3.af ag) lm
 replace aO := U4.au (U3.af aO) Ee
 replace hF := (hF.go0 U3).go1 U4 jH
 obtain ⟨x, bG, hx, hxw, ag, ae, aO, hF⟩ := hI
 refine Z.b 5 ((Gs.cv x).toArray) bG ?_
 refine aI (IE (b := b) ag ae aO hB (x := x) hxw) (fun v9 w9 D9 => ?_)
 obtain ⟨M9, N9, U9⟩ := D9
 have aN := ae
 replace ae := N9
 replace ag := U9.get ag (fun hs => Or.elim (show aG _ _ ∨ _ = _ from hs) (fun h => Own.aT aN ag (by decide) _ h rfl) (fun hb => absurd hb (by exact dQ (by assumption) (by assumption) (by decide))))
 replace aO := M9
 replace hF := hF.go U9 (fun i h hs => Or.elim (show aG _ _ ∨ _ = _ from hs) (fun hs => .inl (.inl hs)) (fun hb => by (subst hb; omega)))
 clear aN
 subst hx
 exact ⟨_, rfl, rfl, ag, ae, aO, hF⟩
theorem ace {r c : Int} {A : Option Addr} {n cp bp bb B0 : Nat} {b : Gs.Br} {w : World} (ag : Z.h w bp #[Z.i r, Z.i c, .slice A n cp, Z.i b.cur] 91) (ae : Own B0 w 37 5 (.slice A n cp) (rows Gs.cv b.cs)) (aO : Z.h w bb #[Z.p bp, Z.i b.at', Z.u b.lk.b, .bool b.lk.ge, .bool b.lk.st, Z.u b.lk.l, Z.u b.lk.c, .bool b.ld] 229) (hB : Gs.Bw r c n b) {o : Gs.jc} (dM : Gs.kR w [o]) (hwo : Gs.Ai o) (hlo : o.ds.length ≤ 100000 ∧ o.ps.length ≤ 100000) (na1 : [o] = [] ∨ ∀ k, Gs.jP [o] k → ¬ aG (.slice A n cp) k) (na2 : [o] = [] ∨ ∀ k, Gs.jP [o] k → k ≠ bp) (na3 : [o] = [] ∨ ∀ k, Gs.jP [o] k → k ≠ bb) :
    oX 186 #[Z.p bb, .agg (Gs.oe o).toArray] w fun e w' => ∃ v, e = .returned v ∧ v = Z.i (Gs.vC o.m b).2 ∧ Z.h w' bp #[Z.i r, Z.i c, .slice A n cp, Z.i (Gs.vC o.m b).1.cur] 91 ∧ Own B0 w' 37 5 (.slice A n cp) (rows Gs.cv (Gs.vC o.m b).1.cs) ∧ Z.h w' bb #[Z.p bp, Z.i (Gs.vC o.m b).1.at', Z.u (Gs.vC o.m b).1.lk.b, .bool (Gs.vC o.m b).1.lk.ge, .bool (Gs.vC o.m b).1.lk.st, Z.u (Gs.vC o.m b).1.lk.l, Z.u (Gs.vC o.m b).1.lk.c, .bool (Gs.vC o.m b).1.ld] 229 ∧ aB (fun k => (aG (.slice A n cp) k ∨ k = bp) ∨ k = bb) w w' := by
 refine abE.calls ?_
 unfold abE
 obtain ⟨hW, hat, hlw⟩ := id hB
 obtain ⟨hn, hcw, hcu, hp, hN, hb⟩ := id hW
 obtain ⟨hok, hob, hod, hop⟩ := id hwo
 have hF : aB (fun k => (aG (.slice A n cp) k ∨ k = bp) ∨ k = bb) w w := Fr.refl _ _ _
 refine Z.x ((Gs.oe o).toArray) (fun b1 w1 e1 ah _ U1 => ?_)
 refine dV (S := no) (fun w2 U2 => ?_)
 refine fM ?_
 refine Z.g 2 ?_
 replace aO := U2.af (U1.af aO)
 refine bI (fun w' hw' => by have aO := hw'.af aO; exact (CE (n := 5) (cs' := (Gs.cv b.lk).toArray) (by kernel_rfl) aO (Nat.le_of_ble_eq_true rfl) (by rfl))) ?_
 refine Z.g 4 ?_
 replace ah := U2.af ah
 refine Z.m ah ?_
 replace dM := (dM.ai U1).ai U2
 refine gQ (fun w' hw' => by have dM := dM.ai hw'; exact Ed (c := b.lk) dM.p rfl hlo.2 hop) ?_
 refine fM ?_
 refine Z.g 2 ?_
 refine aJ (fun w4 U4 => ?_)
 replace aO := U4.af aO
 refine iD (n := 5) (by kernel_rfl) (by rfl) (by (simp [Value.cells, Value.oneCell', Gs.cv, Gs.fv, Gs.ie, Gs.pe, Gs.oe, Gs.cu, Gs.fe, Gs.eY, Gs.ce, Gs.dZ]; done)) aO (Nat.le_of_ble_eq_true rfl) (by (simp; rfl)) (fun w5 aO _ U5 => ?_)
 replace ae := ((ae.ai U1).ai U2).ai U4
 replace ae := ae.aF U5 (Own.aT ae (by assumption) (by decide))
 replace ag := U4.af (U2.af (U1.af ag))
 replace ag := U5.au ag (by exact dQ (by assumption) (by assumption) (by decide))
 replace hF := ((hF.go0 U1).go0 U2).go0 U4
 replace hF := hF.go U5 (fun i _ h => .inr h)
 refine aJ (fun w6 U6 => ?_)
 replace ae := ae.ai U6
 replace ag := U6.af ag
 replace aO := U6.af aO
 replace hF := hF.go0 U6
 exact ⟨_, rfl, rfl, ag, ae, aO, hF⟩
theorem Yh {r c : Int} {A : Option Addr} {n cp bp bb B0 : Nat} {b : Gs.Br} {w : World} (ag : Z.h w bp #[Z.i r, Z.i c, .slice A n cp, Z.i b.cur] 91) (ae : Own B0 w 37 5 (.slice A n cp) (rows Gs.cv b.cs)) (aO : Z.h w bb #[Z.p bp, Z.i b.at', Z.u b.lk.b, .bool b.lk.ge, .bool b.lk.st, Z.u b.lk.l, Z.u b.lk.c, .bool b.ld] 229) (hB : Gs.Bw r c n b) {o : Gs.jc} (dM : Gs.kR w [o]) (hwo : Gs.Ai o) (hlo : o.ds.length ≤ 100000 ∧ o.ps.length ≤ 100000) (na1 : [o] = [] ∨ ∀ k, Gs.jP [o] k → ¬ aG (.slice A n cp) k) (na2 : [o] = [] ∨ ∀ k, Gs.jP [o] k → k ≠ bp) (na3 : [o] = [] ∨ ∀ k, Gs.jP [o] k → k ≠ bb) :
    oX 187 #[Z.p bb, .agg (Gs.oe o).toArray] w fun e w' => ∃ v, e = .returned v ∧ v = Z.i (Gs.nD o.m b).2 ∧ Z.h w' bp #[Z.i r, Z.i c, .slice A n cp, Z.i (Gs.nD o.m b).1.cur] 91 ∧ Own B0 w' 37 5 (.slice A n cp) (rows Gs.cv (Gs.nD o.m b).1.cs) ∧ Z.h w' bb #[Z.p bp, Z.i (Gs.nD o.m b).1.at', Z.u (Gs.nD o.m b).1.lk.b, .bool (Gs.nD o.m b).1.lk.ge, .bool (Gs.nD o.m b).1.lk.st, Z.u (Gs.nD o.m b).1.lk.l, Z.u (Gs.nD o.m b).1.lk.c, .bool (Gs.nD o.m b).1.ld] 229 ∧ aB (fun k => (aG (.slice A n cp) k ∨ k = bp) ∨ k = bb) w w' := by
 refine abG.calls ?_
 unfold abG
 obtain ⟨hW, hat, hlw⟩ := id hB
 obtain ⟨hn, hcw, hcu, hp, hN, hb⟩ := id hW
 obtain ⟨hok, hob, hod, hop⟩ := id hwo
 have hF : aB (fun k => (aG (.slice A n cp) k ∨ k = bp) ∨ k = bb) w w := Fr.refl _ _ _
 refine Z.x ((Gs.oe o).toArray) (fun b1 w1 e1 ah _ U1 => ?_)
 refine dV (S := no) (fun w2 U2 => ?_)
 refine fM ?_
 refine Z.g 0 ?_
 replace aO := U2.af (U1.af aO)
 refine Z.m aO ?_
 refine fM ?_
 refine Z.g 1 ?_
 refine Z.m aO ?_
 replace ae := (ae.ai U1).ai U2
 replace ag := U2.af (U1.af ag)
 refine gQ (fun w' hw' => by have ag := hw'.af ag; have ae := ae.ai hw'; exact gy ag ae hn (i := b.at')) ?_
 refine aJ (fun w4 U4 => ?_)
 refine jy ?_
 refine Z.n ((Gs.cv Gs.zc).toArray) (fun b5 w5 e5 cO _ U5 => ?_)
 replace ag := U4.af ag
 have jT : bp ≠ b5 := by have := aj ag; omega
 replace ae := ae.ai U4
 have jl := ae.apart e5
 replace aO := U4.af aO
 have WP : bb ≠ b5 := by have := aj aO; omega
 replace dM := ((dM.ai U1).ai U2).ai U4
 have ad3 := dM.apart e5
 replace ah := U4.af (U2.af ah)
 have ik : b1 ≠ b5 := by have := aj ah; omega
 replace hF := ((hF.go0 U1).go0 U2).go0 U4
 have iM : w.heap.size ≤ b5 := by have := hF.size; omega
 refine ⟨U5, ?_⟩
 refine aJ (fun w6 U6 => ?_)
 replace cO := U6.af cO
 refine Z.t 5 ((Gs.cv (Gs.bH b.cs b.at')).toArray) (by (simp [Value.cells, Value.oneCell', Gs.cv, Gs.fv, Gs.ie, Gs.pe, Gs.oe, Gs.cu, Gs.fe, Gs.eY, Gs.ce, Gs.dZ]; done)) cO (fun w7 cO _ U7 => ?_)
 refine aJ (fun w8 U8 => ?_)
 refine Z.f 2 ?_
 replace cO := U8.af cO
 refine oJ (kH (by kernel_rfl) cO (by rfl)) (fun h9 => ?_) (fun h9 => ?_)
 refine ak (jE) ?_
 refine aH ?_
 refine Z.b 5 ((Gs.cv (Gs.bH b.cs b.at')).toArray) cO ?_
 refine Z.f 4 ?_
 replace ah := U8.af (U7.au (U6.af (U5.af ah)) ik)
 refine Z.l ah ?_
 replace dM := (((dM.ai U5).ai U6).aF U7 ad3).ai U8
 refine aA (Ed (c := Gs.bH b.cs b.at') dM.p rfl hlo.2 hop) (fun w10 aX => ?_)
 replace ae := ((((ae.ai U5).ai U6).aF U7 jl).ai U8).ai aX
 replace ag := aX.af (U8.af (U7.au (U6.af (U5.af ag)) jT))
 replace aO := aX.af (U8.af (U7.au (U6.af (U5.af aO)) WP))
 refine aI (IE (b := b) ag ae aO hB (x := Gs.nN (Gs.bH b.cs b.at') o.ps) (Gs.Ef (Gs.sO hcw _))) (fun v11 nT D11 => ?_)
 obtain ⟨M11, N11, bD⟩ := D11
 have aN := ae
 replace ae := N11
 replace ag := bD.get ag (fun hs => Or.elim (show aG _ _ ∨ _ = _ from hs) (fun h => Own.aT aN ag (by decide) _ h rfl) (fun hb => absurd hb (by exact dQ (by assumption) (by assumption) (by decide))))
 replace aO := M11
 replace hF := ((((hF.go0 U5).go0 U6).go1 U7 iM).go0 U8).go0 aX
 replace hF := hF.go bD (fun i h hs => Or.elim (show aG _ _ ∨ _ = _ from hs) (fun hs => .inl (.inl hs)) (fun hb => by (subst hb; omega)))
 clear aN
 rw [Gs.ad4 (o := o.m) (b := b) (by assumption)]; exact ⟨_, rfl, rfl, ag, ae, aO, hF⟩
 refine ak (mY) ?_
 refine aK ?_
 replace ae := (((ae.ai U5).ai U6).aF U7 jl).ai U8
 replace ag := U8.af (U7.au (U6.af (U5.af ag)) jT)
 replace aO := U8.af (U7.au (U6.af (U5.af aO)) WP)
 replace hF := (((hF.go0 U5).go0 U6).go1 U7 iM).go0 U8
 rw [Gs.ad5 (o := o.m) (b := b) (by assumption)]; exact ⟨_, rfl, rfl, ag, ae, aO, hF⟩
theorem Yi {r c : Int} {A : Option Addr} {n cp bp bb B0 : Nat} {b : Gs.Br} {w : World} (ag : Z.h w bp #[Z.i r, Z.i c, .slice A n cp, Z.i b.cur] 91) (ae : Own B0 w 37 5 (.slice A n cp) (rows Gs.cv b.cs)) (aO : Z.h w bb #[Z.p bp, Z.i b.at', Z.u b.lk.b, .bool b.lk.ge, .bool b.lk.st, Z.u b.lk.l, Z.u b.lk.c, .bool b.ld] 229) (hB : Gs.Bw r c n b) {o : Gs.jc} (dM : Gs.kR w [o]) (hwo : Gs.Ai o) (hlo : o.ds.length ≤ 100000 ∧ o.ps.length ≤ 100000) (na1 : [o] = [] ∨ ∀ k, Gs.jP [o] k → ¬ aG (.slice A n cp) k) (na2 : [o] = [] ∨ ∀ k, Gs.jP [o] k → k ≠ bp) (na3 : [o] = [] ∨ ∀ k, Gs.jP [o] k → k ≠ bb) :
    oX 188 #[Z.p bb, .agg (Gs.oe o).toArray] w fun e w' => ∃ v, e = .returned v ∧ v = Z.i (Gs.sG o.m b).2 ∧ Z.h w' bp #[Z.i r, Z.i c, .slice A n cp, Z.i (Gs.sG o.m b).1.cur] 91 ∧ Own B0 w' 37 5 (.slice A n cp) (rows Gs.cv (Gs.sG o.m b).1.cs) ∧ Z.h w' bb #[Z.p bp, Z.i (Gs.sG o.m b).1.at', Z.u (Gs.sG o.m b).1.lk.b, .bool (Gs.sG o.m b).1.lk.ge, .bool (Gs.sG o.m b).1.lk.st, Z.u (Gs.sG o.m b).1.lk.l, Z.u (Gs.sG o.m b).1.lk.c, .bool (Gs.sG o.m b).1.ld] 229 ∧ aB (fun k => (aG (.slice A n cp) k ∨ k = bp) ∨ k = bb) w w' := by
 refine abH.calls ?_
 unfold abH
 obtain ⟨hW, hat, hlw⟩ := id hB
 obtain ⟨hn, hcw, hcu, hp, hN, hb⟩ := id hW
 have hF : aB (fun k => (aG (.slice A n cp) k ∨ k = bp) ∨ k = bb) w w := Fr.refl _ _ _
 refine Z.x ((Gs.oe o).toArray) (fun b1 w1 e1 ah _ U1 => ?_)
 refine dV (S := no) (fun w2 U2 => ?_)
 refine fM ?_
 refine Z.g 0 ?_
 replace aO := U2.af (U1.af aO)
 refine Z.m aO ?_
 refine fM ?_
 refine Z.g 1 ?_
 refine Z.m aO ?_
 refine aJ (fun w3 U3 => ?_)
 replace ae := ((ae.ai U1).ai U2).ai U3
 replace ag := U3.af (U2.af (U1.af ag))
 refine aI (vw ag ae hn (i := b.at')) (fun v4 w4 D4 => ?_)
 obtain ⟨rfl, N4, U4⟩ := D4
 replace ae := ae.aF U4 (Own.aT ae (by assumption) (by decide))
 replace aO := U3.af aO
 replace aO := U4.au aO (by exact dQ (by assumption) (by assumption) (by decide))
 replace ag := N4
 replace hF := ((hF.go0 U1).go0 U2).go0 U3
 replace hF := hF.go U4 (fun i _ h => .inl (.inr h))
 rw [if_pos (by omega)] at ag
 refine aJ (fun w5 U5 => ?_)
 replace ae := ae.ai U5
 replace ag := U5.af ag
 replace aO := U5.af aO
 replace hF := hF.go0 U5
 exact ⟨_, rfl, rfl, ag, ae, aO, hF⟩
theorem ad6 {r c : Int} {A : Option Addr} {n cp bp bb B0 : Nat} {b : Gs.Br} {w : World} (ag : Z.h w bp #[Z.i r, Z.i c, .slice A n cp, Z.i b.cur] 91) (ae : Own B0 w 37 5 (.slice A n cp) (rows Gs.cv b.cs)) (aO : Z.h w bb #[Z.p bp, Z.i b.at', Z.u b.lk.b, .bool b.lk.ge, .bool b.lk.st, Z.u b.lk.l, Z.u b.lk.c, .bool b.ld] 229) (hB : Gs.Bw r c n b)  :
    oX 201 #[Z.p bb] w fun e w' => ∃ v, e = .returned v ∧ Own B0 w' 37 5 (.slice A n cp) (rows Gs.cv (Gs.mM (b.cs.length - b.at'.toNat) b.cs b.at')) ∧ aB (aG (.slice A n cp)) w w' := by
 refine abP.calls ?_
 unfold abP
 obtain ⟨hW, hat, hlw⟩ := id hB
 obtain ⟨hn, hcw, hcu, hp, hN, hb⟩ := id hW
 obtain ⟨a0, ha0⟩ := Int.eq_ofNat_of_zero_le hat.1
 have ha1 : a0 < n := by omega
 have hF : aB (aG (.slice A n cp)) w w := Fr.refl _ _ _
 refine dB ?_
 refine Z.f 1 ?_
 refine Z.l aO ?_
 refine eG (fun g w' => ∃ (k : Nat) (cs1 : List Gs.Cell), (g 2 = Z.i (k : Int)) ∧ (k ≤ n) ∧ ((Gs.mM (b.cs.length - b.at'.toNat) b.cs b.at') = Gs.mM (n - k) cs1 k) ∧ (n = cs1.length) ∧ (Own B0 w' 37 5 (.slice A n cp) (rows Gs.cv cs1)) ∧ (Z.h w' bp #[Z.i r, Z.i c, .slice A n cp, Z.i b.cur] 91) ∧ (Z.h w' bb #[Z.p bp, Z.i b.at', Z.u b.lk.b, .bool b.lk.ge, .bool b.lk.st, Z.u b.lk.l, Z.u b.lk.c, .bool b.ld] 229) ∧ (aB (aG (.slice A n cp)) w w')) (fun g w' => n - (RowKit.intOf (g 2)).toNat) ?_ (fun g1 wl1 hI => ?_)
 exact ⟨a0, _, (by rw [← ha0]; rfl), (by omega), (by rw [ha0, ← hn]; rfl), hn, ae, ag, aO, hF⟩
 obtain ⟨k, cs1, g2, hk, hrs, hl1, ae, ag, aO, hF⟩ := hI
 rw [g2]
 refine dB ?_
 refine Z.f 0 ?_
 refine Z.l aO ?_
 refine aA (fH ag ae hl1) (fun w1 U1 => ?_)
 refine az (lss _ _ _ _) (fun h2 => ?_) (fun h2 => ?_)
 refine aV (aV ?_)
 refine dB ?_
 refine aV ?_
 refine Z.f 0 ?_
 refine aV ?_
 replace aO := U1.af aO
 refine Z.l aO ?_
 refine aV (aV ?_)
 replace ae := ae.ai U1
 replace ag := U1.af ag
 refine aA (gy ag ae hl1 (i := (k : Int))) (fun w3 U3 => ?_)
 refine aV ?_
 refine oJ (qo (off := 2) (by kernel_rfl) (by rfl)) (fun h4 => ?_) (fun h4 => ?_)
 refine aV ?_
 refine ak (jE) ?_
 refine aU (aH ?_)
 replace hF := (hF.go0 U1).go0 U3
 replace ae := ae.ai U3
 exact ⟨_, rfl, (by rw [Gs.ajR hrs (by assumption)]; exact ae), hF⟩
 refine aV ?_
 refine ak (mY) ?_
 refine aU (aK ?_)
 refine dB ?_
 refine Z.f 0 ?_
 replace aO := U3.af aO
 refine Z.l aO ?_
 refine ak (bF (l := [(0, 1), (1, 1), (2, 1), (3, 1), (4, 1)]) (z := #[Z.u 0, .bool false, .bool false, Z.u 0, Z.u 0]) (cs := (Gs.cv Gs.zc)) (by kernel_rfl) (by rfl)) ?_
 replace ae := ae.ai U3
 replace ag := U3.af ag
 refine aI (jZ ag ae hl1 (i := (k : Int)) (x := Gs.zc)) (fun v6 w6 D6 => ?_)
 obtain ⟨rfl, N6, U6⟩ := D6
 have aN := ae
 replace ae := N6
 replace ag := U6.get ag (fun h => Own.aT aN ag (by decide) _ h rfl)
 replace aO := U6.get aO (fun h => Own.aT aN aO (by decide) _ h rfl)
 replace hF := (hF.go0 U1).go0 U3
 replace hF := hF.go U6 (fun i h hs => by exact hs)
 clear aN
 refine ak (dJ _ (by omega)) ?_
 exact ⟨⟨k + 1, _, rfl, (by omega), (Gs.ajS hrs (by omega) (by assumption)), (by rw [Gs.mg]; exact hl1), ae, ag, aO, hF⟩, cnt_lt (by rfl) rfl (by omega)⟩
 refine aP (aP (aP (aP (aP (aP (aP (aP (aQ (aH ?_)))))))))
 replace ae := ae.ai U1
 replace hF := hF.go0 U1
 exact ⟨_, rfl, (by rw [Gs.ajT hrs (by omega)]; exact ae), hF⟩
def BrC (m : Nat) (f : Gs.iK → Gs.Br → Gs.Br × Int) (o : Gs.jc) (r c : Int) (A : Option Addr) (n cp bp bb B0 : Nat) (b : Gs.Br) : Prop := ∀ {w : World}, Z.h w bp #[Z.i r, Z.i c, .slice A n cp, Z.i b.cur] 91 → Own B0 w 37 5 (.slice A n cp) (rows Gs.cv b.cs) → Z.h w bb #[Z.p bp, Z.i b.at', Z.u b.lk.b, .bool b.lk.ge, .bool b.lk.st, Z.u b.lk.l, Z.u b.lk.c, .bool b.ld] 229 → Gs.kR w [o] → oX m #[Z.p bb, .agg (Gs.oe o).toArray] w (fun e w' => ∃ v, e = .returned v ∧ v = Z.i (f o.m b).2 ∧ Z.h w' bp #[Z.i r, Z.i c, .slice A n cp, Z.i (f o.m b).1.cur] 91 ∧ Own B0 w' 37 5 (.slice A n cp) (rows Gs.cv (f o.m b).1.cs) ∧ Z.h w' bb #[Z.p bp, Z.i (f o.m b).1.at', Z.u (f o.m b).1.lk.b, .bool (f o.m b).1.lk.ge, .bool (f o.m b).1.lk.st, Z.u (f o.m b).1.lk.l, Z.u (f o.m b).1.lk.c, .bool (f o.m b).1.ld] 229 ∧ aB (fun k => (aG (.slice A n cp) k ∨ k = bp) ∨ k = bb) w w')
theorem agi {r c : Int} {A : Option Addr} {n cp bp bb B0 : Nat} {b : Gs.Br} {w : World} (ag : Z.h w bp #[Z.i r, Z.i c, .slice A n cp, Z.i b.cur] 91) (ae : Own B0 w 37 5 (.slice A n cp) (rows Gs.cv b.cs)) (aO : Z.h w bb #[Z.p bp, Z.i b.at', Z.u b.lk.b, .bool b.lk.ge, .bool b.lk.st, Z.u b.lk.l, Z.u b.lk.c, .bool b.ld] 229) (hB : Gs.Bw r c n b) {o : Gs.jc} (dM : Gs.kR w [o]) (hwo : Gs.Ai o) (hlo : o.ds.length ≤ 100000 ∧ o.ps.length ≤ 100000) (na1 : [o] = [] ∨ ∀ k, Gs.jP [o] k → ¬ aG (.slice A n cp) k) (na2 : [o] = [] ∨ ∀ k, Gs.jP [o] k → k ≠ bp) (na3 : [o] = [] ∨ ∀ k, Gs.jP [o] k → k ≠ bb) :
    oX 189 #[Z.p bb, .agg (Gs.oe o).toArray] w fun e w' => ∃ v, e = .returned v ∧ v = Z.i (Gs.wX o.m b).2 ∧ Z.h w' bp #[Z.i r, Z.i c, .slice A n cp, Z.i (Gs.wX o.m b).1.cur] 91 ∧ Own B0 w' 37 5 (.slice A n cp) (rows Gs.cv (Gs.wX o.m b).1.cs) ∧ Z.h w' bb #[Z.p bp, Z.i (Gs.wX o.m b).1.at', Z.u (Gs.wX o.m b).1.lk.b, .bool (Gs.wX o.m b).1.lk.ge, .bool (Gs.wX o.m b).1.lk.st, Z.u (Gs.wX o.m b).1.lk.l, Z.u (Gs.wX o.m b).1.lk.c, .bool (Gs.wX o.m b).1.ld] 229 ∧ aB (fun k => (aG (.slice A n cp) k ∨ k = bp) ∨ k = bb) w w' := by
 refine abI.calls ?_
 unfold abI
 obtain ⟨hW, hat, hlw⟩ := id hB
 obtain ⟨hn, hcw, hcu, hp, hN, hb⟩ := id hW
 obtain ⟨a0, ha0⟩ := Int.eq_ofNat_of_zero_le hat.1
 have ha1 : a0 < n := by omega
 have hF : aB (fun k => (aG (.slice A n cp) k ∨ k = bp) ∨ k = bb) w w := Fr.refl _ _ _
 refine Z.x ((Gs.oe o).toArray) (fun b1 w1 e1 ah _ U1 => ?_)
 refine bQ (fun g w' => ∃ (cs1 : List Gs.Cell), (cs1 = (if b.ld = true then (Gs.mM (b.cs.length - b.at'.toNat) b.cs b.at') else b.cs)) ∧ (n = cs1.length) ∧ (Gs.je cs1) ∧ (Z.h w' bp #[Z.i r, Z.i c, .slice A n cp, Z.i b.cur] 91) ∧ (Own B0 w' 37 5 (.slice A n cp) (rows Gs.cv cs1)) ∧ (Z.h w' bb #[Z.p bp, Z.i b.at', Z.u b.lk.b, .bool b.lk.ge, .bool b.lk.st, Z.u b.lk.l, Z.u b.lk.c, .bool b.ld] 229) ∧ (aB (fun k => (aG (.slice A n cp) k ∨ k = bp) ∨ k = bb) w w')) (fun J1 hJ1 => ?_) (fun gJ1 jY hI => ?_)
 refine dB ?_
 refine Z.f 7 ?_
 replace aO := U1.af aO
 refine oJ (kH (by kernel_rfl) aO (by rfl)) (fun h2 => ?_) (fun h2 => ?_)
 refine aK ?_
 replace ae := ae.ai U1
 replace ag := U1.af ag
 refine aI (ad6 (b := b) ag ae aO hB) (fun v3 w3 D3 => ?_)
 obtain ⟨N3, U3⟩ := D3
 have aN := ae
 replace ag := U3.get ag (fun h => Own.aT aN ag (by decide) _ h rfl)
 replace ae := N3
 replace aO := U3.get aO (fun h => Own.aT aN aO (by decide) _ h rfl)
 replace hF := hF.go0 U1
 replace hF := hF.go U3 (fun i h hs => .inl (.inl hs))
 clear aN
 refine hJ1 _ _ ?_
 exact ⟨_, (by (rw [if_pos (by assumption)])), (by (rw [Gs.S9]; exact hn)), (by exact (Gs.Q9 hcw _ _ _ hcw).1), ag, ae, aO, hF⟩
 refine aH ?_
 refine hJ1 _ _ ?_
 replace ae := ae.ai U1
 replace ag := U1.af ag
 replace hF := hF.go0 U1
 exact ⟨_, (by (rw [if_neg (by simp_all)])), (by exact hn), (by exact hcw), ag, ae, aO, hF⟩
 replace ae := ae.ai U1
 replace ag := U1.af ag
 replace aO := U1.af aO
 replace hF := hF.go0 U1
 obtain ⟨cs1, hc1, hl1, hw1, ag, ae, aO, hF⟩ := hI
 refine bQ (fun g w' => (none = Gs.yL (n - a0) cs1 (a0 : Int)) ∧ (Z.h w' bp #[Z.i r, Z.i c, .slice A n cp, Z.i b.cur] 91) ∧ (Own B0 w' 37 5 (.slice A n cp) (rows Gs.cv cs1)) ∧ (Z.h w' bb #[Z.p bp, Z.i b.at', Z.u b.lk.b, .bool b.lk.ge, .bool b.lk.st, Z.u b.lk.l, Z.u b.lk.c, .bool b.ld] 229) ∧ (aB (fun k => (aG (.slice A n cp) k ∨ k = bp) ∨ k = bb) w w')) (fun J2 hJ2 => ?_) (fun gJ2 Vb hI => ?_)
 refine dB ?_
 refine Z.f 1 ?_
 refine Z.l aO ?_
 refine eG (fun g w' => ∃ (k : Nat), (g 5 = Z.i (k : Int)) ∧ (k ≤ n) ∧ (Gs.yL (n - a0) cs1 (a0 : Int) = Gs.yL (n - k) cs1 (k : Int)) ∧ (Z.h w' bp #[Z.i r, Z.i c, .slice A n cp, Z.i b.cur] 91) ∧ (Own B0 w' 37 5 (.slice A n cp) (rows Gs.cv cs1)) ∧ (Z.h w' bb #[Z.p bp, Z.i b.at', Z.u b.lk.b, .bool b.lk.ge, .bool b.lk.st, Z.u b.lk.l, Z.u b.lk.c, .bool b.ld] 229) ∧ (aB (fun k => (aG (.slice A n cp) k ∨ k = bp) ∨ k = bb) w w')) (fun g w' => n - (RowKit.intOf (g 5)).toNat) ?_ (fun g3 wl3 hI => ?_)
 exact ⟨a0, (by rw [← ha0]; rfl), (by omega), rfl, ag, ae, aO, hF⟩
 obtain ⟨k, g5, hk, hti, ag, ae, aO, hF⟩ := hI
 rw [g5]
 refine dB ?_
 refine Z.f 0 ?_
 refine Z.l aO ?_
 refine aA (fH ag ae hl1) (fun w4 U4 => ?_)
 refine az (lss _ _ _ _) (fun h5 => ?_) (fun h5 => ?_)
 refine aK ?_
 refine dB ?_
 refine Z.f 0 ?_
 replace aO := U4.af aO
 refine Z.l aO ?_
 replace ae := ae.ai U4
 replace ag := U4.af ag
 refine aA (gy ag ae hl1 (i := (k : Int))) (fun w6 U6 => ?_)
 refine Z.n ((Gs.cv Gs.zc).toArray) (fun b7 w7 e7 kT _ U7 => ?_)
 replace ag := U6.af ag
 have AV : bp ≠ b7 := by have := aj ag; omega
 replace ae := ae.ai U6
 have yg := ae.apart e7
 replace aO := U6.af aO
 have Ot : bb ≠ b7 := by have := aj aO; omega
 replace hF := (hF.go0 U4).go0 U6
 have ul : w.heap.size ≤ b7 := by have := hF.size; omega
 refine Z.t 5 ((Gs.cv (Gs.bH cs1 (k : Int))).toArray) (by (simp [Value.cells, Value.oneCell', Gs.cv, Gs.fv, Gs.ie, Gs.pe, Gs.oe, Gs.cu, Gs.fe, Gs.eY, Gs.ce, Gs.dZ]; done)) kT (fun w8 kT _ U8 => ?_)
 refine Z.f 2 ?_
 refine oJ (kH (by kernel_rfl) kT (by rfl)) (fun h9 => ?_) (fun h9 => ?_)
 refine aV ?_
 refine Z.f 0 ?_
 refine aV ?_
 refine Z.l kT ?_
 refine aV ?_
 refine eF (pV (Gs.sO hw1 _)) (fun w10 aX h10 => ?_) (fun w10 aX h10 => ?_)
 simp only [Z.d, Z.c] at h10
 refine aV ?_
 refine ak (jE) ?_
 refine aU (aH ?_)
 refine ak (dJ _ (by omega)) ?_
 replace ae := ((ae.ai U7).aF U8 yg).ai aX
 replace ag := aX.af (U8.au (U7.af ag) AV)
 replace aO := aX.af (U8.au (U7.af aO) Ot)
 replace hF := ((hF.go0 U7).go1 U8 ul).go0 aX
 exact ⟨⟨k + 1, rfl, (by omega), (hti.trans (Gs.ad7 rfl (by omega) (by rintro ⟨h1, h2⟩; (unfold Gs.uo at h2; have := of_decide_eq_false h2; contradiction)))), ag, ae, aO, hF⟩, cnt_lt (by rfl) rfl (by omega)⟩
 simp only [Z.d, Z.c] at h10
 refine aV ?_
 refine ak (mY) ?_
 refine aU (aK ?_)
 refine dB ?_
 refine Z.f 0 ?_
 replace aO := aX.af (U8.au (U7.af aO) Ot)
 refine Z.l aO ?_
 replace ae := ((ae.ai U7).aF U8 yg).ai aX
 replace ag := aX.af (U8.au (U7.af ag) AV)
 refine aA (kP ag ae hl1) (fun nT bD => ?_)
 refine aA (nI (i := (k : Int)) (j := 1)) (fun w12 bW => ?_)
 rw [hN, Gs.uf (by omega)]
 refine dB ?_
 refine Z.f 1 ?_
 replace aO := bW.af (bD.af aO)
 refine Z.s aO (fun ve aO _ dC => ?_)
 replace ae := (ae.ai bD).ai bW
 replace ae := ae.aF dC (Own.aT ae (by assumption) (by decide))
 replace ag := bW.af (bD.af ag)
 replace ag := dC.au ag (by exact dQ (by assumption) (by assumption) (by decide))
 replace hF := ((((hF.go0 U7).go1 U8 ul).go0 aX).go0 bD).go0 bW
 replace hF := hF.go dC (fun i _ h => .inr h)
 rw [Gs.Ze hc1 (Gs.amg ha0 hl1 hti (by omega) (by assumption) (by unfold Gs.uo; exact decide_eq_false (by assumption)))]; exact ⟨_, rfl, rfl, ag, ae, aO, hF⟩
 refine aP (aP (aP (aP (aQ (aH ?_)))))
 refine ak (dJ _ (by omega)) ?_
 replace ae := (ae.ai U7).aF U8 yg
 replace ag := U8.au (U7.af ag) AV
 replace aO := U8.au (U7.af aO) Ot
 replace hF := (hF.go0 U7).go1 U8 ul
 exact ⟨⟨k + 1, rfl, (by omega), (hti.trans (Gs.ad7 rfl (by omega) (by rintro ⟨h1, h2⟩; (simp_all; done)))), ag, ae, aO, hF⟩, cnt_lt (by rfl) rfl (by omega)⟩
 refine aH ?_
 refine hJ2 _ _ ?_
 replace ae := ae.ai U4
 replace ag := U4.af ag
 replace aO := U4.af aO
 replace hF := hF.go0 U4
 exact ⟨(hti.trans (Gs.amh rfl (by omega))).symm, ag, ae, aO, hF⟩
 obtain ⟨htn, ag, ae, aO, hF⟩ := hI
 refine dB ?_
 refine Z.f 1 ?_
 refine Z.s aO (fun ut aO _ bT => ?_)
 replace ae := ae.aF bT (Own.aT ae (by assumption) (by decide))
 replace ag := bT.au ag (by exact dQ (by assumption) (by assumption) (by decide))
 replace hF := hF.go bT (fun i _ h => .inr h)
 rw [Gs.Ze hc1 (x := 0) (by rw [ha0]; exact Gs.ad8 (by rw [← hl1]; exact htn))]; exact ⟨_, rfl, rfl, ag, ae, aO, hF⟩
theorem Yj {r c : Int} {A : Option Addr} {n cp bp bb B0 : Nat} {b : Gs.Br} {w : World} (ag : Z.h w bp #[Z.i r, Z.i c, .slice A n cp, Z.i b.cur] 91) (ae : Own B0 w 37 5 (.slice A n cp) (rows Gs.cv b.cs)) (aO : Z.h w bb #[Z.p bp, Z.i b.at', Z.u b.lk.b, .bool b.lk.ge, .bool b.lk.st, Z.u b.lk.l, Z.u b.lk.c, .bool b.ld] 229) (hB : Gs.Bw r c n b) {o : Gs.jc} (dM : Gs.kR w [o]) (hwo : Gs.Ai o) (hlo : o.ds.length ≤ 100000 ∧ o.ps.length ≤ 100000) (na1 : [o] = [] ∨ ∀ k, Gs.jP [o] k → ¬ aG (.slice A n cp) k) (na2 : [o] = [] ∨ ∀ k, Gs.jP [o] k → k ≠ bp) (na3 : [o] = [] ∨ ∀ k, Gs.jP [o] k → k ≠ bb) :
    oX 190 #[Z.p bb, .agg (Gs.oe o).toArray] w fun e w' => ∃ v, e = .returned v ∧ v = Z.i (Gs.vV o.m b).2 ∧ Z.h w' bp #[Z.i r, Z.i c, .slice A n cp, Z.i (Gs.vV o.m b).1.cur] 91 ∧ Own B0 w' 37 5 (.slice A n cp) (rows Gs.cv (Gs.vV o.m b).1.cs) ∧ Z.h w' bb #[Z.p bp, Z.i (Gs.vV o.m b).1.at', Z.u (Gs.vV o.m b).1.lk.b, .bool (Gs.vV o.m b).1.lk.ge, .bool (Gs.vV o.m b).1.lk.st, Z.u (Gs.vV o.m b).1.lk.l, Z.u (Gs.vV o.m b).1.lk.c, .bool (Gs.vV o.m b).1.ld] 229 ∧ aB (fun k => (aG (.slice A n cp) k ∨ k = bp) ∨ k = bb) w w' := by
 refine abJ.calls ?_
 unfold abJ
 obtain ⟨hW, hat, hlw⟩ := id hB
 obtain ⟨hn, hcw, hcu, hp, hN, hb⟩ := id hW
 obtain ⟨hok, hob, hod, hop⟩ := id hwo
 have hF : aB (fun k => (aG (.slice A n cp) k ∨ k = bp) ∨ k = bb) w w := Fr.refl _ _ _
 refine Z.x ((Gs.oe o).toArray) (fun b1 w1 e1 ah _ U1 => ?_)
 have jJ : bp ≠ b1 := by have := aj ag; omega
 have Eg : bb ≠ b1 := by have := aj aO; omega
 refine dB ?_
 refine Z.f 1 ?_
 replace aO := U1.af aO
 refine Z.l aO ?_
 refine Z.b 6 ((Gs.oe o).toArray) ah ?_
 replace ae := ae.ai U1
 replace dM := dM.ai U1
 replace ag := U1.af ag
 refine aI (KL ag ae aO hB dM hwo hlo na1 na2 na3) (fun v2 w2 D2 => ?_)
 have aN := ae
 replace hF := hF.go0 U1
 have qF2 := hF.size
 obtain ⟨rfl, ag, ae, aO, U2⟩ := D2
 replace ah := U2.get ah (fun hs => by rcases hs with (hs | hs) | hs <;> first | (first | exact Own.aT aN ah (by decide) _ hs rfl | (have := Own.ge aN hs; omega)) | (exact absurd hs (Ne.symm jJ)) | (exact absurd hs (Ne.symm Eg)))
 replace hF := hF.go U2 (fun i hi hs => by exact hs)
 clear aN
 refine az (jO _ _ _ _ _) (fun h3 => ?_) (fun h3 => ?_)
 refine aK ?_
 rw [Gs.Zf (by assumption)] at ag ae aO ⊢; rw [Gs.ami (o := o.m) (b := b) (Gs.Ou (by assumption))]; exact ⟨_, rfl, rfl, ag, ae, aO, hF⟩
 refine aH ?_
 refine dV (S := no) (fun w5 U5 => ?_)
 have hj := Gs.Zg (o := o.m) (b := b) (by assumption)
 replace ae := ae.ai U5
 replace aO := U5.af aO
 replace ag := U5.af ag
 rw [Gs.L8 hj] at ag ae aO
 dsimp only at ag ae aO
 refine fM ?_
 refine Z.g 0 ?_
 refine Z.m aO ?_
 refine fM ?_
 refine Z.g 1 ?_
 refine Z.m aO ?_
 refine Z.g 2 ?_
 replace ah := U5.af ah
 refine Z.m ah ?_
 refine Z.g 3 ?_
 refine Z.m ah ?_
 refine gQ (fun w' hw' => by have aO := hw'.af aO; exact KI (b := ({ b with at' := o.a } : Gs.Br)) aO (x := o.b) (g := o.ge)) ?_
 refine aJ (fun w7 U7 => ?_)
 replace ae := ae.ai U7
 replace ag := U7.af ag
 refine aI (J9 ag ae hn (i := b.at') (j := o.a) (x := Gs.qP b o.b o.ge) hN) (fun v8 w8 D8 => ?_)
 obtain ⟨rfl, N8, U8⟩ := D8
 have aN := ae
 replace aO := U7.af aO
 replace aO := U8.get aO (fun h => Own.aT aN aO (by decide) _ h rfl)
 replace ag := U8.get ag (fun h => Own.aT aN ag (by decide) _ h rfl)
 replace ae := N8
 replace hF := (hF.go0 U5).go0 U7
 replace hF := hF.go U8 (fun i h hs => .inl (.inl hs))
 clear aN
 rw [show Gs.aY r c = (b.cs.length : Int) by rw [hN, ← hn]] at ae
 refine aJ (fun w9 U9 => ?_)
 replace ae := ae.ai U9
 replace aO := U9.af aO
 replace ag := U9.af ag
 replace hF := hF.go0 U9
 rw [Gs.amj (o := o.m) (b := b) hj]; exact ⟨_, rfl, rfl, ag, ae, aO, hF⟩
theorem ad9 {r c : Int} {A : Option Addr} {n cp bp bb B0 : Nat} {b : Gs.Br} {w : World} (ag : Z.h w bp #[Z.i r, Z.i c, .slice A n cp, Z.i b.cur] 91) (ae : Own B0 w 37 5 (.slice A n cp) (rows Gs.cv b.cs)) (aO : Z.h w bb #[Z.p bp, Z.i b.at', Z.u b.lk.b, .bool b.lk.ge, .bool b.lk.st, Z.u b.lk.l, Z.u b.lk.c, .bool b.ld] 229) (hB : Gs.Bw r c n b) {o : Gs.jc} (dM : Gs.kR w [o]) (hwo : Gs.Ai o) (hlo : o.ds.length ≤ 100000 ∧ o.ps.length ≤ 100000) (na1 : [o] = [] ∨ ∀ k, Gs.jP [o] k → ¬ aG (.slice A n cp) k) (na2 : [o] = [] ∨ ∀ k, Gs.jP [o] k → k ≠ bp) (na3 : [o] = [] ∨ ∀ k, Gs.jP [o] k → k ≠ bb) :
    oX 191 #[Z.p bb, .agg (Gs.oe o).toArray] w fun e w' => ∃ v, e = .returned v ∧ v = Z.i (Gs.rW o.m b).2 ∧ Z.h w' bp #[Z.i r, Z.i c, .slice A n cp, Z.i (Gs.rW o.m b).1.cur] 91 ∧ Own B0 w' 37 5 (.slice A n cp) (rows Gs.cv (Gs.rW o.m b).1.cs) ∧ Z.h w' bb #[Z.p bp, Z.i (Gs.rW o.m b).1.at', Z.u (Gs.rW o.m b).1.lk.b, .bool (Gs.rW o.m b).1.lk.ge, .bool (Gs.rW o.m b).1.lk.st, Z.u (Gs.rW o.m b).1.lk.l, Z.u (Gs.rW o.m b).1.lk.c, .bool (Gs.rW o.m b).1.ld] 229 ∧ aB (fun k => (aG (.slice A n cp) k ∨ k = bp) ∨ k = bb) w w' := by
 refine abK.calls ?_
 unfold abK
 obtain ⟨hW, hat, hlw⟩ := id hB
 obtain ⟨hn, hcw, hcu, hp, hN, hb⟩ := id hW
 have xC := aj ag
 have lJ := Own.lt ae
 have lt_h_bb := aj aO
 have amk := dM.lt
 have hF : aB (fun k => (aG (.slice A n cp) k ∨ k = bp) ∨ k = bb) w w := Fr.refl _ _ _
 refine Z.x _ (fun b1 w1 e1 ah _ U1 => ?_)
 have jJ : bp ≠ b1 := by have := aj ag; omega
 have gZ := ae.apart e1
 have Eg : bb ≠ b1 := by have := aj aO; omega
 have apI := dM.apart e1
 have bY : w.heap.size ≤ b1 := by have := hF.size; omega
 refine Z.x ((Gs.oe o).toArray) (fun b2 w2 e2 ay _ U2 => ?_)
 replace ag := U1.af ag
 have fF : bp ≠ b2 := by have := aj ag; omega
 replace ae := ae.ai U1
 have dN := ae.apart e2
 replace aO := U1.af aO
 have agj : bb ≠ b2 := by have := aj aO; omega
 replace dM := dM.ai U1
 have apJ := dM.apart e2
 have mf : b1 ≠ b2 := by have := aj ah; omega
 replace hF := hF.go0 U1
 have fD : w.heap.size ≤ b2 := by have := hF.size; omega
 replace ah := U2.af ah
 refine Z.l ah ?_
 refine dB ?_
 refine Z.f 1 ?_
 replace aO := U2.af aO
 refine Z.l aO ?_
 refine Z.l ah ?_
 refine Z.b 6 ((Gs.oe o).toArray) ay ?_
 replace ae := ae.ai U2
 replace dM := dM.ai U2
 replace ag := U2.af ag
 refine aI (KL ag ae aO hB dM hwo hlo na1 na2 na3) (fun v3 w3 D3 => ?_)
 have aN := ae
 replace hF := hF.go0 U2
 have qF3 := hF.size
 obtain ⟨rfl, ag, ae, aO, U3⟩ := D3
 replace dM := dM.dO U3 (na1.elim .inl fun h0 => na2.elim .inl fun h1 => na3.elim .inl fun h2 => .inr fun k hk hs => by rcases hs with (hs | hs) | hs <;> first | exact h0 k hk hs | exact h1 k hk hs | exact h2 k hk hs)
 replace ah := U3.get ah (fun hs => by rcases hs with (hs | hs) | hs <;> first | (first | exact Own.aT aN ah (by decide) _ hs rfl | (have := Own.ge aN hs; omega)) | (exact absurd hs (Ne.symm jJ)) | (exact absurd hs (Ne.symm Eg)))
 replace ay := U3.get ay (fun hs => by rcases hs with (hs | hs) | hs <;> first | (first | exact Own.aT aN ay (by decide) _ hs rfl | (have := Own.ge aN hs; omega)) | (exact absurd hs (Ne.symm fF)) | (exact absurd hs (Ne.symm agj)))
 replace hF := hF.go U3 (fun i hi hs => by exact hs)
 clear aN
 refine az (jO _ _ _ _ _) (fun h4 => ?_) (fun h4 => ?_)
 refine aK ?_
 show mG [] _ _
 rw [Gs.Zf (by assumption)] at ag ae aO ⊢; rw [Gs.ajU (o := o.m) (b := b) (Gs.Ou (by assumption))]; exact ⟨_, rfl, rfl, ag, ae, aO, hF⟩
 refine aH ?_
 refine bQ (fun g w' => ∃ (D2 : Nat), (g 1000000 = mkV D2 undef) ∧ (w.heap.size ≤ D2) ∧ (w'.heap[D2]? = some (.deferred (some []))) ∧ (¬ (o.a < 0 ∨ (b.cs.length : Int) ≤ o.a)) ∧ (Z.h w' bp #[Z.i r, Z.i c, .slice A n cp, Z.i b.cur] 91) ∧ (Own B0 w' 37 5 (.slice A n cp) (rows Gs.cv (Gs.o5 b.cs (Gs.rH (Gs.aY r c) b.at' o.a)))) ∧ (Z.h w' bb #[Z.p bp, Z.i ({ b with at' := o.a } : Gs.Br).at', Z.u ({ b with at' := o.a } : Gs.Br).lk.b, .bool ({ b with at' := o.a } : Gs.Br).lk.ge, .bool ({ b with at' := o.a } : Gs.Br).lk.st, Z.u ({ b with at' := o.a } : Gs.Br).lk.l, Z.u ({ b with at' := o.a } : Gs.Br).lk.c, .bool ({ b with at' := o.a } : Gs.Br).ld] 229) ∧ (aB (fun k => (aG (.slice A n cp) k ∨ k = bp) ∨ k = bb) w w')) (fun J1 hJ1 => ?_) (fun gJ1 jY hI => ?_)
 refine dV (S := no) (fun w7 U7 => ?_)
 replace dM := dM.ai U7
 replace ae := ae.ai U7
 replace ah := U7.af ah
 replace ay := U7.af ay
 replace aO := U7.af aO
 replace ag := U7.af ag
 replace hF := hF.go0 U7
 have hj := Gs.Zg (o := o.m) (b := b) (by assumption)
 rw [Gs.L8 hj] at ag ae aO
 dsimp only at ag ae aO
 refine Z.m ah ?_
 refine fM ?_
 refine Z.g 0 ?_
 refine Z.m aO ?_
 refine gQ (fun w' hw' => by have ag := hw'.af ag; have ae := ae.ai hw'; exact kP ag ae hn) ?_
 refine Z.m ah ?_
 refine fM ?_
 refine Z.g 1 ?_
 refine Z.m aO ?_
 refine aJ (fun w9 U9 => ?_)
 refine aI (GN (r := r) (c := c) (i := b.at') (j := o.a)) (fun v10 w10 D10 => ?_)
 obtain ⟨b3_28, b4_28, b5_28, rfl, g3_28, g4_28, g5_28, lq, lu, lw, aX⟩ := D10
 replace dM := dM.ai U9
 have aml := (dM.lt).ne (b := b3_28) (by omega)
 replace ah := U9.af ah
 have anK : b1 ≠ b3_28 := by have := aj ah; omega
 replace ay := U9.af ay
 have anL : b2 ≠ b3_28 := by have := aj ay; omega
 replace aO := U9.af aO
 have anM : bb ≠ b3_28 := by have := aj aO; omega
 replace ag := U9.af ag
 have anN : bp ≠ b3_28 := by have := aj ag; omega
 replace ae := ae.ai U9
 have Rf : ∀ k, aG _ k → k ≠ b3_28 := fun k hk => by have := (Own.ge ae hk).2; omega
 replace hF := hF.go0 U9
 have aqS : w.heap.size ≤ b3_28 := by have := hF.size; omega
 have amm := (dM.lt).ne (b := b4_28) (by omega)
 have anO : b1 ≠ b4_28 := by have := aj ah; omega
 have anP : b2 ≠ b4_28 := by have := aj ay; omega
 have anQ : bb ≠ b4_28 := by have := aj aO; omega
 have anR : bp ≠ b4_28 := by have := aj ag; omega
 have Rh : ∀ k, aG _ k → k ≠ b4_28 := fun k hk => by have := (Own.ge ae hk).2; omega
 have aqT : w.heap.size ≤ b4_28 := by have := hF.size; omega
 have amn := (dM.lt).ne (b := b5_28) (by omega)
 have anS : b1 ≠ b5_28 := by have := aj ah; omega
 have anT : b2 ≠ b5_28 := by have := aj ay; omega
 have anU : bb ≠ b5_28 := by have := aj aO; omega
 have anV : bp ≠ b5_28 := by have := aj ag; omega
 have Ri : ∀ k, aG _ k → k ≠ b5_28 := fun k hk => by have := (Own.ge ae hk).2; omega
 have aqU : w.heap.size ≤ b5_28 := by have := hF.size; omega
 refine aJ (fun nT bD => ?_)
 refine wL (by kernel_rfl) (fun w12 l2 D2 Rdy2 Bsy2 Dn2 y2 eD el bz bC lp1 lp2 lp3 sz12 bW hY => ?_)
 have lp2_2 := lp2
 replace dM := (dM.ai aX).ai bD
 have apK := (dM.lt).ne (b := D2) (by omega)
 have apL := (dM.lt).ne (b := l2) (by omega)
 replace ah := bD.af (aX.af ah)
 have VE : b1 ≠ D2 := by have := aj ah; omega
 have iR : b1 ≠ l2 := by have := aj ah; omega
 replace ay := bD.af (aX.af ay)
 have uQ : b2 ≠ D2 := by have := aj ay; omega
 have gU : b2 ≠ l2 := by have := aj ay; omega
 replace aO := bD.af (aX.af aO)
 have aqV : bb ≠ D2 := by have := aj aO; omega
 have II : bb ≠ l2 := by have := aj aO; omega
 replace ag := bD.af (aX.af ag)
 have VD : bp ≠ D2 := by have := aj ag; omega
 have iL : bp ≠ l2 := by have := aj ag; omega
 replace ae := (ae.ai aX).ai bD
 have ug : ∀ k, aG _ k → k ≠ D2 := fun k hk => by have := (Own.ge ae hk).2; omega
 have fB : ∀ k, aG _ k → k ≠ l2 := fun k hk => by have := (Own.ge ae hk).2; omega
 replace lq := bD.af lq
 have anW : b3_28 ≠ D2 := by have := aj lq; omega
 have Bh : b3_28 ≠ l2 := by have := aj lq; omega
 replace lu := bD.af lu
 have anX : b4_28 ≠ D2 := by have := aj lu; omega
 have Bi : b4_28 ≠ l2 := by have := aj lu; omega
 replace lw := bD.af lw
 have anY : b5_28 ≠ D2 := by have := aj lw; omega
 have Bj : b5_28 ≠ l2 := by have := aj lw; omega
 replace hF := (hF.go0 aX).go0 bD
 have oK : w.heap.size ≤ D2 := by have := hF.size; omega
 have jR : w.heap.size ≤ l2 := by have := hF.size; omega
 have fK : D2 ≠ l2 := by omega
 replace ae := ae.ai bW
 replace ah := bW.af ah
 replace aO := bW.af aO
 replace ag := bW.af ag
 replace lq := bW.af lq
 replace lu := bW.af lu
 replace lw := bW.af lw
 replace hF := hF.go0 bW
 refine Calls.mono (Eh (b3 := b3_28) (b4 := b4_28) (b5 := b5_28) (J := (fun (k : Nat) (w' : World) => (Z.h w' bp #[Z.i r, Z.i c, .slice A n cp, Z.i b.cur] 91) ∧ (Own B0 w' 37 5 (.slice A n cp) (rows Gs.cv (Gs.o5 b.cs ((Gs.rH (Gs.aY r c) b.at' o.a).take k)))) ∧ (Z.h w' bb #[Z.p bp, Z.i ({ b with at' := o.a } : Gs.Br).at', Z.u ({ b with at' := o.a } : Gs.Br).lk.b, .bool ({ b with at' := o.a } : Gs.Br).lk.ge, .bool ({ b with at' := o.a } : Gs.Br).lk.st, Z.u ({ b with at' := o.a } : Gs.Br).lk.l, Z.u ({ b with at' := o.a } : Gs.Br).lk.c, .bool ({ b with at' := o.a } : Gs.Br).ld] 229) ∧ (Z.h w' b1 #[Z.p bb] 227) ∧ (Z.h w' b3_28 #[Z.i r, Z.i c] 32) ∧ (Z.h w' b4_28 #[Z.i b.at'] 3) ∧ (Z.h w' b5_28 #[Z.i o.a] 3) ∧ (w'.heap[D2]? = some (.deferred (some []))) ∧ (w'.heap[l2]? = some Rdy2) ∧ (aB (fun k => (aG (.slice A n cp) k ∨ k = bp) ∨ k = bb) w w'))) (X := (fun _ => False)) (fun _ w' hJ => by obtain ⟨ag, ae, aO, ah, lq, lu, lw, bz, bC, hF⟩ := hJ; exact ⟨lq, lu, lw⟩) (fun _ w' w'' hJ U' => by obtain ⟨ag, ae, aO, ah, lq, lu, lw, bz, bC, hF⟩ := hJ; exact ⟨U'.af ag, ae.ai U', U'.af aO, U'.af ah, U'.af lq, U'.af lu, U'.af lw, U'.af bz, U'.af bC, hF.go0 U'⟩) ?_ ?_) ?_
 intro k qW xk hx hI
 obtain ⟨ag, ae, aO, ah, lq, lu, lw, bz, bC, hF⟩ := hI
 have hwk := Gs.GR hcw ((Gs.rH (Gs.aY r c) b.at' o.a).take k)
 have hlk := hn.trans hwk.2.symm
 refine hY [Z.i xk] _ _ rfl bC ?_
 simp only [List.getD_cons_zero, List.getD_cons_succ]
 refine zu bC (fun ve bC _ dC => ?_)
 replace ah := dC.au ah iR
 refine Z.l ah ?_
 refine dB ?_
 refine Z.f 0 ?_
 replace aO := dC.au aO II
 refine Z.l aO ?_
 replace ae := ae.aF dC fB
 replace ag := dC.au ag iL
 refine eF (oZ ag ae hlk hN hb hwk.1 (i := xk)) (fun rF bZ h14 => ?_) (fun rF bZ h14 => ?_)
 refine aK ?_
 replace ah := bZ.af ah
 refine Z.l ah ?_
 refine dB ?_
 refine Z.f 0 ?_
 replace aO := bZ.af aO
 refine Z.l aO ?_
 refine ak (bF (l := [(0, 1), (1, 1), (2, 1), (3, 1), (4, 1)]) (z := #[Z.u 0, .bool false, .bool false, Z.u 0, Z.u 0]) (cs := (Gs.cv Gs.zc)) (by kernel_rfl) (by rfl)) ?_
 replace ae := ae.ai bZ
 replace ag := bZ.af ag
 refine aI (jZ ag ae hlk (i := xk) (x := Gs.zc)) (fun v15 ut D15 => ?_)
 obtain ⟨rfl, N15, bT⟩ := D15
 have aN := ae
 replace ag := bT.get ag (fun h => Own.aT aN ag (by decide) _ h rfl)
 replace ae := N15
 replace aO := bT.get aO (fun h => Own.aT aN aO (by decide) _ h rfl)
 replace ah := bT.get ah (fun h => gZ _ h rfl)
 replace lq := bZ.af (dC.au lq Bh)
 replace lq := bT.get lq (fun h => Rf _ h rfl)
 replace lu := bZ.af (dC.au lu Bi)
 replace lu := bT.get lu (fun h => Rh _ h rfl)
 replace lw := bZ.af (dC.au lw Bj)
 replace lw := bT.get lw (fun h => Ri _ h rfl)
 replace bz := bZ.af (dC.au bz fK)
 replace bz := bT.get bz (fun h => ug _ h rfl)
 replace bC := bZ.af bC
 replace bC := bT.get bC (fun h => fB _ h rfl)
 replace hF := (hF.go1 dC jR).go0 bZ
 replace hF := hF.go bT (fun i h hs => .inl (.inl hs))
 clear aN
 refine uO bC (fun w16 bC _ bU => ?_)
 replace ae := ae.aF bU fB
 replace ag := bU.au ag iL
 replace aO := bU.au aO II
 replace ah := bU.au ah iR
 replace lq := bU.au lq Bh
 replace lu := bU.au lu Bi
 replace lw := bU.au lw Bj
 replace bz := bU.au bz fK
 replace hF := hF.go1 bU jR
 exact ⟨ag, (by rw [Gs.Dc hx]; (rw [if_pos (by assumption)]; exact ae)), aO, ah, lq, lu, lw, bz, bC, hF⟩
 refine aH ?_
 replace bC := bZ.af bC
 refine uO bC (fun vW bC _ di => ?_)
 replace lq := di.au (bZ.af (dC.au lq Bh)) Bh
 replace lu := di.au (bZ.af (dC.au lu Bi)) Bi
 replace lw := di.au (bZ.af (dC.au lw Bj)) Bj
 replace bz := di.au (bZ.af (dC.au bz fK)) fK
 replace hF := ((hF.go1 dC jR).go0 bZ).go1 di jR
 replace ae := (ae.ai bZ).aF di fB
 replace ag := di.au (bZ.af ag) iL
 replace aO := di.au (bZ.af aO) II
 replace ah := di.au (bZ.af ah) iR
 exact ⟨ag, (by rw [Gs.Dc hx]; (rw [if_neg (Bool.eq_false_iff.1 (by assumption))]; exact ae)), aO, ah, lq, lu, lw, bz, bC, hF⟩
 exact ⟨ag, (by simpa [Gs.o5] using ae), aO, ah, lq, lu, lw, bz, bC, hF⟩
 rintro e wE2 ⟨hv, hI | hI⟩
 obtain ⟨ag, ae, aO, ah, lq, lu, lw, bz, bC, hF⟩ := hI
 refine ⟨hv, .inl ⟨bC, fun xY _ dR => ?_⟩⟩
 refine hJ1 _ _ ?_
 replace ae := ae.aF dR fB
 replace ag := dR.au ag iL
 replace aO := dR.au aO II
 replace bz := dR.au bz fK
 replace hF := hF.go1 dR jR
 exact ⟨_, (by rfl), oK, bz, hj, ag, (by rw [List.take_of_length_le (Nat.le_refl _)] at ae; exact ae), aO, hF⟩
 exact hI.elim
 obtain ⟨D2, g1000000, oK, bz, hj, ag, ae, aO, hF⟩ := hI
 rw [g1000000]
 refine leave1 bz (fun xM _ dF => ?_)
 replace ae := ae.aF dF (Own.lV ae (by assumption))
 replace ag := dF.au ag (by omega)
 replace aO := dF.au aO (by omega)
 replace hF := hF.go1 dF oK
 rw [Gs.ajV (o := o.m) (b := b) hj, show (b.cs.length : Int) = Gs.aY r c by rw [hN, ← hn]]; exact ⟨_, rfl, rfl, ag, ae, aO, hF⟩
set_option maxHeartbeats 1000000 in
theorem ajW {r c : Int} {A : Option Addr} {n cp bp bb B0 : Nat} {b : Gs.Br} {w : World} (ag : Z.h w bp #[Z.i r, Z.i c, .slice A n cp, Z.i b.cur] 91) (ae : Own B0 w 37 5 (.slice A n cp) (rows Gs.cv b.cs)) (aO : Z.h w bb #[Z.p bp, Z.i b.at', Z.u b.lk.b, .bool b.lk.ge, .bool b.lk.st, Z.u b.lk.l, Z.u b.lk.c, .bool b.ld] 229) (hB : Gs.Bw r c n b) {o : Gs.jc} (dM : Gs.kR w [o]) (hwo : Gs.Ai o) (hlo : o.ds.length ≤ 100000 ∧ o.ps.length ≤ 100000) (na1 : [o] = [] ∨ ∀ k, Gs.jP [o] k → ¬ aG (.slice A n cp) k) (na2 : [o] = [] ∨ ∀ k, Gs.jP [o] k → k ≠ bp) (na3 : [o] = [] ∨ ∀ k, Gs.jP [o] k → k ≠ bb) :
    oX 171 #[Z.p bb, .agg (Gs.oe o).toArray] w fun e w' => ∃ v, e = .returned v ∧ v = Z.i (Gs.qL o.m b).2 ∧ Z.h w' bp #[Z.i r, Z.i c, .slice A n cp, Z.i (Gs.qL o.m b).1.cur] 91 ∧ Own B0 w' 37 5 (.slice A n cp) (rows Gs.cv (Gs.qL o.m b).1.cs) ∧ Z.h w' bb #[Z.p bp, Z.i (Gs.qL o.m b).1.at', Z.u (Gs.qL o.m b).1.lk.b, .bool (Gs.qL o.m b).1.lk.ge, .bool (Gs.qL o.m b).1.lk.st, Z.u (Gs.qL o.m b).1.lk.l, Z.u (Gs.qL o.m b).1.lk.c, .bool (Gs.qL o.m b).1.ld] 229 ∧ aB (fun k => (aG (.slice A n cp) k ∨ k = bp) ∨ k = bb) w w' := by
 refine abv.calls ?_
 unfold abv
 obtain ⟨hW, hat, hlw⟩ := id hB
 obtain ⟨hn, hcw, hcu, hp, hN, hb⟩ := id hW
 have hF : aB (fun k => (aG (.slice A n cp) k ∨ k = bp) ∨ k = bb) w w := Fr.refl _ _ _
 refine Z.x ((Gs.oe o).toArray) (fun b1 w1 e1 ah _ U1 => ?_)
 have jJ : bp ≠ b1 := by have := aj ag; omega
 have Eg : bb ≠ b1 := by have := aj aO; omega
 refine bQ (fun g w' => ∃ (m : Nat) (f : Gs.iK → Gs.Br → Gs.Br × Int), (g 5 = .func (.func m) #[] #[]) ∧ (((Tryz.prog.funcs[m]?).any fun fn => fn.body.isSome && !(fn.name == "runtime.NumGoroutine")) = true) ∧ (Gs.oV o.m.k = some f) ∧ (BrC m f o r c A n cp bp bb B0 b) ∧ (Z.h w' bp #[Z.i r, Z.i c, .slice A n cp, Z.i b.cur] 91) ∧ (Own B0 w' 37 5 (.slice A n cp) (rows Gs.cv b.cs)) ∧ (Z.h w' bb #[Z.p bp, Z.i b.at', Z.u b.lk.b, .bool b.lk.ge, .bool b.lk.st, Z.u b.lk.l, Z.u b.lk.c, .bool b.ld] 229) ∧ (Gs.kR w' [o]) ∧ (Z.h w' b1 ((Gs.oe o).toArray) 209) ∧ (aB (fun k => (aG (.slice A n cp) k ∨ k = bp) ∨ k = bb) w w')) (fun J1 hJ1 => ?_) (fun gJ1 jY hI => ?_)
 refine Z.f 0 ?_
 refine Z.l ah ?_
 refine az (dh _ _ _ _ _) (fun h2 => ?_) (fun h2 => ?_)
 refine aK ?_
 refine hJ1 _ _ ?_
 replace ae := ae.ai U1
 replace dM := dM.ai U1
 replace ag := U1.af ag
 replace aO := U1.af aO
 replace hF := hF.go0 U1
 exact ⟨182, Gs.yB, (by rfl), by kernel_rfl, (by show Gs.oV o.k = some _; unfold Gs.oV; repeat (first | rw [if_pos (by omega)] | rw [if_neg (by omega)])), (fun h1 h2 h3 h4 => ad2 h1 h2 h3 hB h4 hwo hlo na1 na2 na3), ag, ae, aO, dM, ah, hF⟩
 refine aH ?_
 refine az (dh _ _ _ _ _) (fun h3 => ?_) (fun h3 => ?_)
 refine aK ?_
 refine hJ1 _ _ ?_
 replace ae := ae.ai U1
 replace dM := dM.ai U1
 replace ag := U1.af ag
 replace aO := U1.af aO
 replace hF := hF.go0 U1
 exact ⟨183, Gs.yC, (by rfl), by kernel_rfl, (by show Gs.oV o.k = some _; unfold Gs.oV; repeat (first | rw [if_pos (by omega)] | rw [if_neg (by omega)])), (fun h1 h2 h3 h4 => WO h1 h2 h3 hB h4 hwo hlo na1 na2 na3), ag, ae, aO, dM, ah, hF⟩
 refine aH ?_
 refine az (dh _ _ _ _ _) (fun h4 => ?_) (fun h4 => ?_)
 refine aK ?_
 refine hJ1 _ _ ?_
 replace ae := ae.ai U1
 replace dM := dM.ai U1
 replace ag := U1.af ag
 replace aO := U1.af aO
 replace hF := hF.go0 U1
 exact ⟨184, Gs.pF, (by rfl), by kernel_rfl, (by show Gs.oV o.k = some _; unfold Gs.oV; repeat (first | rw [if_pos (by omega)] | rw [if_neg (by omega)])), (fun h1 h2 h3 h4 => KL h1 h2 h3 hB h4 hwo hlo na1 na2 na3), ag, ae, aO, dM, ah, hF⟩
 refine aH ?_
 refine bQ (fun g w' => (g 15 = .bool (decide (o.k = 29 ∨ o.k = 41))) ∧ (Z.h w' bp #[Z.i r, Z.i c, .slice A n cp, Z.i b.cur] 91) ∧ (Own B0 w' 37 5 (.slice A n cp) (rows Gs.cv b.cs)) ∧ (Z.h w' bb #[Z.p bp, Z.i b.at', Z.u b.lk.b, .bool b.lk.ge, .bool b.lk.st, Z.u b.lk.l, Z.u b.lk.c, .bool b.ld] 229) ∧ (Gs.kR w' [o]) ∧ (Z.h w' b1 ((Gs.oe o).toArray) 209) ∧ (aB (fun k => (aG (.slice A n cp) k ∨ k = bp) ∨ k = bb) w w')) (fun J2 hJ2 => ?_) (fun gJ2 Vb hI => ?_)
 refine az (dh _ _ _ _ _) (fun h5 => ?_) (fun h5 => ?_)
 refine aK ?_
 refine hJ2 _ _ ?_
 replace ae := ae.ai U1
 replace dM := dM.ai U1
 replace ag := U1.af ag
 replace aO := U1.af aO
 replace hF := hF.go0 U1
 exact ⟨(by exact congrArg Value.bool (decide_eq_true (by omega)).symm), ag, ae, aO, dM, ah, hF⟩
 refine aH ?_
 refine az (dh _ _ _ _ _) (fun h6 => ?_) (fun h6 => ?_)
 refine hJ2 _ _ ?_
 replace ae := ae.ai U1
 replace dM := dM.ai U1
 replace ag := U1.af ag
 replace aO := U1.af aO
 replace hF := hF.go0 U1
 exact ⟨(by exact congrArg Value.bool (decide_eq_true (by omega)).symm), ag, ae, aO, dM, ah, hF⟩
 refine hJ2 _ _ ?_
 replace ae := ae.ai U1
 replace dM := dM.ai U1
 replace ag := U1.af ag
 replace aO := U1.af aO
 replace hF := hF.go0 U1
 exact ⟨(by exact congrArg Value.bool (decide_eq_false (by omega)).symm), ag, ae, aO, dM, ah, hF⟩
 replace ae := ae.ai U1
 replace dM := dM.ai U1
 replace ag := U1.af ag
 replace aO := U1.af aO
 replace hF := hF.go0 U1
 obtain ⟨g15, ag, ae, aO, dM, ah, hF⟩ := hI
 rw [g15]
 refine kL (fun h7 => ?_) (fun h7 => ?_)
 simp only [Z.d, Z.c] at h7
 refine hJ1 _ _ ?_
 exact ⟨185, Gs.uy, (by rfl), by kernel_rfl, (by show Gs.oV o.k = some _; unfold Gs.oV; repeat (first | rw [if_pos (by omega)] | rw [if_neg (by omega)])), (fun h1 h2 h3 h4 => acd h1 h2 h3 hB h4 hwo hlo na1 na2 na3), ag, ae, aO, dM, ah, hF⟩
 simp only [Z.d, Z.c] at h7
 refine az (dh _ _ _ _ _) (fun h8 => ?_) (fun h8 => ?_)
 refine aK ?_
 refine hJ1 _ _ ?_
 exact ⟨186, Gs.vC, (by rfl), by kernel_rfl, (by show Gs.oV o.k = some _; unfold Gs.oV; repeat (first | rw [if_pos (by omega)] | rw [if_neg (by omega)])), (fun h1 h2 h3 h4 => ace h1 h2 h3 hB h4 hwo hlo na1 na2 na3), ag, ae, aO, dM, ah, hF⟩
 refine aH ?_
 refine az (dh _ _ _ _ _) (fun h9 => ?_) (fun h9 => ?_)
 refine aK ?_
 refine hJ1 _ _ ?_
 exact ⟨187, Gs.nD, (by rfl), by kernel_rfl, (by show Gs.oV o.k = some _; unfold Gs.oV; repeat (first | rw [if_pos (by omega)] | rw [if_neg (by omega)])), (fun h1 h2 h3 h4 => Yh h1 h2 h3 hB h4 hwo hlo na1 na2 na3), ag, ae, aO, dM, ah, hF⟩
 refine aH ?_
 refine az (dh _ _ _ _ _) (fun h10 => ?_) (fun h10 => ?_)
 refine aK ?_
 refine hJ1 _ _ ?_
 exact ⟨188, Gs.sG, (by rfl), by kernel_rfl, (by show Gs.oV o.k = some _; unfold Gs.oV; repeat (first | rw [if_pos (by omega)] | rw [if_neg (by omega)])), (fun h1 h2 h3 h4 => Yi h1 h2 h3 hB h4 hwo hlo na1 na2 na3), ag, ae, aO, dM, ah, hF⟩
 refine aH ?_
 refine az (dh _ _ _ _ _) (fun h11 => ?_) (fun h11 => ?_)
 refine aK ?_
 refine hJ1 _ _ ?_
 exact ⟨189, Gs.wX, (by rfl), by kernel_rfl, (by show Gs.oV o.k = some _; unfold Gs.oV; repeat (first | rw [if_pos (by omega)] | rw [if_neg (by omega)])), (fun h1 h2 h3 h4 => agi h1 h2 h3 hB h4 hwo hlo na1 na2 na3), ag, ae, aO, dM, ah, hF⟩
 refine aH ?_
 refine az (dh _ _ _ _ _) (fun h12 => ?_) (fun h12 => ?_)
 refine aK ?_
 refine hJ1 _ _ ?_
 exact ⟨190, Gs.vV, (by rfl), by kernel_rfl, (by show Gs.oV o.k = some _; unfold Gs.oV; repeat (first | rw [if_pos (by omega)] | rw [if_neg (by omega)])), (fun h1 h2 h3 h4 => Yj h1 h2 h3 hB h4 hwo hlo na1 na2 na3), ag, ae, aO, dM, ah, hF⟩
 refine aH ?_
 refine az (dh _ _ _ _ _) (fun h13 => ?_) (fun h13 => ?_)
 refine aK ?_
 refine hJ1 _ _ ?_
 exact ⟨191, Gs.rW, (by rfl), by kernel_rfl, (by show Gs.oV o.k = some _; unfold Gs.oV; repeat (first | rw [if_pos (by omega)] | rw [if_neg (by omega)])), (fun h1 h2 h3 h4 => ad9 h1 h2 h3 hB h4 hwo hlo na1 na2 na3), ag, ae, aO, dM, ah, hF⟩
 refine aH ?_
 rw [Gs.amo (o := o.m) (b := b) (by show Gs.oV o.k = none; unfold Gs.oV; repeat rw [if_neg (by omega)])]; exact ⟨_, rfl, rfl, ag, ae, aO, hF⟩
 replace ae := ae.ai U1
 replace dM := dM.ai U1
 replace ag := U1.af ag
 replace aO := U1.af aO
 replace hF := hF.go0 U1
 obtain ⟨m, f, g5, hok5, hfm, hcl, ag, ae, aO, dM, ah, hF⟩ := hI
 rw [g5]
 refine Z.b 6 ((Gs.oe o).toArray) ah ?_
 refine Sr hok5 (by rfl) (aI (hcl ag ae aO dM) (fun v15 ut D15 => ?_))
 have aN := ae
 have afW := hF.size
 obtain ⟨rfl, ag, ae, aO, bT⟩ := D15
 replace ah := bT.get ah (fun hs => by rcases hs with (hs | hs) | hs <;> first | (first | exact Own.aT aN ah (by decide) _ hs rfl | (have := Own.ge aN hs; omega)) | (exact absurd hs (Ne.symm jJ)) | (exact absurd hs (Ne.symm Eg)))
 replace hF := hF.go bT (fun i hi hs => by exact hs)
 clear aN
 refine Z.f 0 ?_
 refine Z.l ah ?_
 refine az (dh _ _ _ _ _) (fun h16 => ?_) (fun h16 => ?_)
 refine bg (bg (bg (bg (tN (tN (tN (tN (bg (aU ?_)))))))))
 refine dB ?_
 refine Z.f 7 ?_
 refine Z.s aO (fun vW aO _ di => ?_)
 replace ae := ae.aF di (Own.aT ae (by assumption) (by decide))
 replace ag := di.au ag (by exact dQ (by assumption) (by assumption) (by decide))
 replace hF := hF.go di (fun i _ h => .inr h)
 rw [Gs.WQ (b := b) hfm]; refine ⟨_, rfl, rfl, ag, ae, ?_, hF⟩; have hld := (show Gs.CU o.m = _ from Gs.Rj (o := o.m) (.inl ⟨rfl, .inl (by assumption)⟩)); dsimp only; rw [hld]; exact aO
 refine aW ?_
 refine Z.f 0 ?_
 refine aW ?_
 refine Z.l ah ?_
 refine aW ?_
 refine az (dh _ _ _ _ _) (fun h19 => ?_) (fun h19 => ?_)
 refine aW (aV ?_)
 refine Z.f 5 ?_
 refine aV ?_
 refine Z.l ah ?_
 refine aV ?_
 refine ak (gK (by kernel_rfl) _ _ _) ?_
 refine aV ?_
 refine ak (gtr _ _ _ _) ?_
 refine aW (aU (aQ ?_))
 refine dB ?_
 refine Z.f 7 ?_
 refine Z.s aO (fun xM aO _ dF => ?_)
 replace ae := ae.aF dF (Own.aT ae (by assumption) (by decide))
 replace ag := dF.au ag (by exact dQ (by assumption) (by assumption) (by decide))
 replace hF := hF.go dF (fun i _ h => .inr h)
 rw [Gs.WQ (b := b) hfm]; refine ⟨_, rfl, rfl, ag, ae, ?_, hF⟩; have hld := (show Gs.CU o.m = _ from Gs.Rj (o := o.m) (.inr (.inl ⟨by assumption, by assumption, rfl⟩))); dsimp only; rw [hld]; exact aO
 refine aW (aP (aP (aP (aP (aW (aQ (aQ ?_)))))))
 refine dB ?_
 refine Z.f 7 ?_
 refine Z.s aO (fun Gq aO _ eQ => ?_)
 replace ae := ae.aF eQ (Own.aT ae (by assumption) (by decide))
 replace ag := eQ.au ag (by exact dQ (by assumption) (by assumption) (by decide))
 replace hF := hF.go eQ (fun i _ h => .inr h)
 rw [Gs.WQ (b := b) hfm]; refine ⟨_, rfl, rfl, ag, ae, ?_, hF⟩; have hld := (show Gs.CU o.m = _ from Gs.Rj (o := o.m) (.inr (.inr ⟨by assumption, by assumption, rfl⟩))); dsimp only; rw [hld]; exact aO
end Go.Proofs.YtjdoakbadehicaaGreatDoor
end
section
namespace Gs
open Go Go.Sh
structure wu where
 rep : Int
 rs : Bool
 al : Bool
 er : Int
def re (x : wu) : List Value := [.int .u8 x.rep, .bool x.rs, .bool x.al, .int .i64 x.er]
def qw : wu := ⟨0, false, false, 0⟩
def yh (e : Int) : wu := ⟨0, false, false, e⟩
structure gV where
 r0 : Int
 c0 : Int
 r1 : Int
 c1 : Int
 wh : Int
 r : Int
 c : Int
 cs : List Cell
 cur : Int
def Sw (n : Nat) (s : gV) : Prop := (aY s.r0 s.c0 ≠ 0 ∧ aY s.r1 s.c1 ≠ 0) ∧ Pw s.r s.c n s.cs s.cur
def FT (r c : Int) : List Cell := List.replicate (aY r c).toNat zc
def bP (s : gV) (wh : Int) : gV := if wh = 0 then { s with wh := 0, r := s.r0, c := s.c0, cs := FT s.r0 s.c0, cur := 0 } else { s with wh := 1, r := s.r1, c := s.c1, cs := FT s.r1 s.c1, cur := 0 }
def sS (cs : List Cell) : List Cell := rM (o5 cs (jA cs)) (dm (o5 cs (jA cs)))
def Xw (c : rU) (e : Int) : wu := if e = 0 then ⟨0, decide (c.w / 2 % 2 = 1), decide (c.w / 4 % 2 = 1), 0⟩ else yh e
def DW (s : gV) (i : Int) : Br := ⟨s.cs, s.cur, i, zc, false⟩
def qM (s : gV) (c : rU) (i : Int) : gV × wu :=
 ({ s with cs := (jW c.os (DW s i)).1.cs, cur := (jW c.os (DW s i)).1.cur }, Xw c (if (jW c.os (DW s i)).2 = 0 then c.e else (jW c.os (DW s i)).2))
def iT (s : gV) (c : rU) (wh : Int) : gV × wu := qM (bP s wh) c 0
def aq9 (s : gV) : gV := { s with cs := rJ s.cs (dm s.cs) }
def BZ (s : gV) (w : Int) : gV := { s with cs := if w % 2 = 1 then rJ s.cs (dm s.cs) else s.cs }
def acL (s : gV) : gV := { s with cs := sS s.cs, cur := um (sS s.cs) }
def pq (s : gV) (c : rU) : gV × wu :=
 if c.k = 241 then qM (BZ s c.w) c s.cur else if c.k = 245 then iT s c 0 else if c.k = 126 then iT s c 1 else
 if c.k = 111 then (acL s, ⟨0, true, false, 0⟩) else if c.k = 242 ∨ c.k = 246 ∨ c.k = 110 then (s, ⟨c.k, false, false, 0⟩) else (s, yh 30)
def fP (s : gV) (f : rZ) : gV × wu :=
 if f.id = 1 then (s, ⟨f.op, false, false, 0⟩) else if f.id = 3 then (bP s (if f.op = 0 then 0 else 1), qw) else ((pq s f.c).1, { (pq s f.c).2 with rep := 0 })
def mrg (o r : wu) : wu := ⟨if o.rep = 0 then r.rep else o.rep, o.rs || r.rs, o.al || r.al, o.er⟩
def kU (e : Int) : List rZ → gV → wu → gV × wu
 | [], s, o => (s, if e = 0 then o else yh e)
 | f :: fs, s, o => if (fP s f).2.er = 0 then kU e fs (fP s f).1 (mrg o (fP s f).2) else ((fP s f).1, yh (fP s f).2.er)
def zy (s : gV) (c : sD) : gV × wu := if c.c.k = 243 then kU c.c.e c.fs s qw else pq s c.c
def G9 (b : List Int) : sD × Int := iJ b.length b
def uK (s : gV) (b : List Int) : gV × wu := if (G9 b).2 = 0 then zy s (G9 b).1 else (s, yh (G9 b).2)
section
variable {e : Int} {fs : List rZ} {s : gV} {o : wu} {k : Nat} {f : rZ} {x : gV × wu}
theorem Yn (h : x = kU e (fs.drop k) s o) (hk : fs.length ≤ k) : x = (s, if e = 0 then o else yh e) := by rw [h, List.drop_eq_nil_of_le hk]; rfl
theorem Ym (h : x = kU e (fs.drop k) s o) (hf : fs[k]? = some f) (he : ¬ (fP s f).2.er = 0) : x = ((fP s f).1, yh (fP s f).2.er) := by
 obtain ⟨hl, rfl⟩ := List.getElem?_eq_some_iff.1 hf
 rw [h, List.drop_eq_getElem_cons hl, kU, if_neg he]
theorem zJ (h : x = kU e (fs.drop k) s o) (hf : fs[k]? = some f) (he : (fP s f).2.er = 0) : x = kU e (fs.drop (k + 1)) (fP s f).1 (mrg o (fP s f).2) := by
 obtain ⟨hl, rfl⟩ := List.getElem?_eq_some_iff.1 hf
 rw [h, List.drop_eq_getElem_cons hl, kU, if_pos he]
end
theorem AC (r c : Int) : (FT r c).length = (aY r c).toNat := List.length_replicate ..
theorem aoT (n : Nat) : je (List.replicate n zc) := fun x hx => by rw [List.eq_of_mem_replicate hx]; exact DU
theorem Pw.new {r c : Int} (h : aY r c ≠ 0) : Pw r c (aY r c).toNat (FT r c) 0 := by
 have h1 := yM r c
 exact ⟨(AC r c).symm, aoT _, by omega, by omega, by omega, by omega⟩
theorem Pw.len {r c cur : Int} {n : Nat} {cs : List Cell} (h : Pw r c n cs cur) : Pw r c cs.length cs cur := h.1 ▸ h
theorem Sw.len {n : Nat} {s : gV} (h : Sw n s) : Sw s.cs.length s := ⟨h.1, h.2.len⟩
theorem Sw.renew {n : Nat} {s : gV} (h : Sw n s) (wh : Int) : Sw (bP s wh).cs.length (bP s wh) := by
 unfold bP
 split
 ·exact ⟨h.1, (Pw.new h.1.1).len⟩
 ·exact ⟨h.1, (Pw.new h.1.2).len⟩
theorem Bw.acM {r c : Int} {n : Nat} : ∀ {os : List iK} {b : Br}, Bw r c n b → (∀ o ∈ os, (0 ≤ o.b ∧ o.b ≤ 255) ∧ Bs o.ds) → Bw r c n (jW os b).1
 | [], b, h, _ => h
 | o :: os, b, h, hw => by
  have h1 := hw o (List.mem_cons_self ..)
  have h2 := h.do h1.1 h1.2
  unfold jW
  split
  ·exact Bw.acM h2 fun x hx => hw x (List.mem_cons_of_mem _ hx)
  ·exact h2
def uk (os : List iK) : Prop := ∀ o ∈ os, (0 ≤ o.b ∧ o.b ≤ 255) ∧ Bs o.ds
theorem uk.of {l : List jc} (h : DL l) : uk (xN l) := fun o ho => by
 obtain ⟨x, hx, rfl⟩ := List.mem_map.1 ho
 exact ⟨(h x hx).2.1, (h x hx).2.2.1⟩
theorem Bw.of {s : gV} {n : Nat} (h : Sw n s) {i : Int} (hi : 0 ≤ i ∧ i < n) : Bw s.r s.c n (DW s i) := ⟨h.2, hi, DU⟩
theorem Sw.write {n : Nat} {s : gV} (h : Sw n s) {c : rU} (hw : uk c.os) {i : Int} (hi : 0 ≤ i ∧ i < n) : Sw n (qM s c i).1 := ⟨h.1, (Bw.acM (Bw.of h hi) hw).1⟩
theorem Sw.erase {n : Nat} {s : gV} (h : Sw n s) {c : rU} (hw : uk c.os) (wh : Int) : Sw (bP s wh).cs.length (iT s c wh).1 := by
 have h1 := h.renew wh
 have h2 := h1.2.2.2.1
 have h3 : (bP s wh).cur = 0 := by unfold bP; split <;> rfl
 exact h1.write hw ⟨by omega, by omega⟩
theorem Sw.unm {n : Nat} {s : gV} (h : Sw n s) : Sw n (aq9 s) := ⟨h.1, h.2.unm _⟩
theorem Sw.Zl {n : Nat} {s : gV} (h : Sw n s) (w : Int) : Sw n (BZ s w) := by unfold BZ; split; exact h.unm; exact h
theorem KH (cs : List Cell) : (sS cs).length = cs.length := by
 unfold sS
 rw [← yV]
 unfold o5
 have : ∀ (l : List Int) (c : List Cell), (l.foldl (fun cs i => if jI cs i = true then iC cs i zc else cs) c).length = c.length := by
  intro l
  induction l with
  | nil => exact fun _ => rfl
  | cons i l ih =>
   intro c
   rw [List.foldl_cons, ih]
   split
   ·exact mg ..
   ·rfl
 exact this _ _
theorem Zb {cs : List Cell} (h : je cs) : je (sS cs) := LM (GR h _).1 _
theorem Sw.opn {n : Nat} {s : gV} (h : Sw n s) : Sw n (acL s) := by
 have hn := h.2.1
 have hp := h.2.2.2.2.1
 have hl := KH s.cs
 have hh := LJ (cs := sS s.cs) (by omega)
 exact ⟨h.1, ⟨hn.trans hl.symm, Zb h.2.2.1, by show 0 ≤ um _ ∧ um _ < _; omega, h.2.2.2.2⟩⟩
theorem Sw.ZA {n : Nat} {s : gV} (h : Sw n s) {c : rU} (hw : uk c.os) : Sw (pq s c).1.cs.length (pq s c).1 := by
 unfold pq
 split
 ·exact ((h.Zl _).write hw (h.2.2.2.1)).len
 split
 ·exact (h.erase hw 0).len
 split
 ·exact (h.erase hw 1).len
 split
 ·exact h.opn.len
 split <;> exact h.len
theorem Sw.field {n : Nat} {s : gV} (h : Sw n s) {f : rZ} (hw : uk f.c.os) : Sw (fP s f).1.cs.length (fP s f).1 := by
 unfold fP
 split
 ·exact h.len
 split
 ·exact h.renew _
 ·exact h.ZA hw
theorem Sw.fields {e : Int} : ∀ {fs : List rZ} {n : Nat} {s : gV} {o : wu}, Sw n s → (∀ f ∈ fs, uk f.c.os) → Sw (kU e fs s o).1.cs.length (kU e fs s o).1
 | [], n, s, o, h, _ => h.len
 | f :: fs, n, s, o, h, hw => by
  have h1 := h.field (hw f (List.mem_cons_self ..))
  unfold kU
  split
  ·exact Sw.fields h1 fun x hx => hw x (List.mem_cons_of_mem _ hx)
  ·exact h1
theorem amu {c : rU} {e : Int} (h : e = 0) : Xw c e = ⟨0, decide (c.w / 2 % 2 = 1), decide (c.w / 4 % 2 = 1), 0⟩ := by unfold Xw; rw [if_pos h]
theorem ams {c : rU} {e : Int} (h : ¬ e = 0) : Xw c e = yh e := by unfold Xw; rw [if_neg h]
theorem amq {x : qj} {S : Nat → Prop} (h : [(⟨0, 0, x⟩ : Fd)] = [] ∨ ∀ k, lF [⟨0, 0, x⟩] k → S k) : rows oe x.os = [] ∨ ∀ k, fC x.oA k → S k := by
 by_cases hx : x.os = []
 ·left; rw [hx]; rfl
 ·right
  intro k hk
  rcases h with h | h
  ·cases h
  ·exact h k ⟨_, List.mem_cons_self .., hx, .inl hk⟩
theorem amr {x : qj} {S : Nat → Prop} (h : [(⟨0, 0, x⟩ : Fd)] = [] ∨ ∀ k, lF [⟨0, 0, x⟩] k → S k) : x.os = [] ∨ ∀ k, jP x.os k → S k := by
 by_cases hx : x.os = []
 ·exact .inl hx
 ·right
  intro k hk
  rcases h with h | h
  ·cases h
  ·exact h k ⟨_, List.mem_cons_self .., hx, .inr hk⟩
theorem aci {x y : Fd} {S : Nat → Prop} (e : x.c = y.c) (h : [x] = [] ∨ ∀ k, lF [x] k → S k) : [y] = [] ∨ ∀ k, lF [y] k → S k := .inr fun k hk => by
 obtain ⟨z, hz, hb⟩ := hk
 cases List.mem_singleton.1 hz
 rcases h with h | h
 ·cases h
 ·exact h k ⟨x, List.mem_cons_self .., e ▸ hb⟩
theorem WZ {l : List Fd} {i : Nat} {x : Fd} {S : Nat → Prop} (h : l = [] ∨ ∀ k, lF l k → S k) (hx : l[i]? = some x) : [x] = [] ∨ ∀ k, lF [x] k → S k := .inr fun k hk => by
 rcases h with rfl | h
 ·simp at hx
 ·exact h k (ajc hx hk)
theorem GY {l : List Fd} {k : Nat} {x : Fd} (h : l[k]? = some x) : (rX l)[k]? = some x.m := by unfold rX; rw [List.getElem?_map, h]; rfl
section
variable {s : gV} {c : rU} {f : rZ}
theorem aov (h : c.k = 241) : pq s c = qM (BZ s c.w) c s.cur := by unfold pq; rw [if_pos h]
theorem aow (h : c.k = 245) : pq s c = iT s c 0 := by unfold pq; rw [if_neg (by omega), if_pos h]
theorem aox (h : c.k = 126) : pq s c = iT s c 1 := by unfold pq; rw [if_neg (by omega), if_neg (by omega), if_pos h]
theorem aoy (h : c.k = 111) : pq s c = (acL s, ⟨0, true, false, 0⟩) := by unfold pq; rw [if_neg (by omega), if_neg (by omega), if_neg (by omega), if_pos h]
theorem aoz (h : c.k = 242 ∨ c.k = 246 ∨ c.k = 110) : pq s c = (s, ⟨c.k, false, false, 0⟩) := by unfold pq; rw [if_neg (by omega), if_neg (by omega), if_neg (by omega), if_neg (by omega), if_pos h]
theorem aoA (h : ¬ (c.k = 241 ∨ c.k = 245 ∨ c.k = 126 ∨ c.k = 111 ∨ c.k = 242 ∨ c.k = 246 ∨ c.k = 110)) : pq s c = (s, yh 30) := by unfold pq; rw [if_neg (by omega), if_neg (by omega), if_neg (by omega), if_neg (by omega), if_neg (by omega)]
theorem ajX (h : f.id = 1) : fP s f = (s, ⟨f.op, false, false, 0⟩) := by unfold fP; rw [if_pos h]
theorem ajY (h : f.id = 3) : fP s f = (bP s (if f.op = 0 then 0 else 1), qw) := by unfold fP; rw [if_neg (by omega), if_pos h]
theorem ajZ (h1 : ¬ f.id = 1) (h : ¬ f.id = 3) : fP s f = ((pq s f.c).1, { (pq s f.c).2 with rep := 0 }) := by unfold fP; rw [if_neg h1, if_neg h]
end
theorem amy {xs : List Value} {A : Option Addr} {b b' B : Nat} (h : xs = [] ∨ ∀ k, fC A k → k ≠ b) (lt : GZ A xs B) (hb : b' = b ∨ B ≤ b') : xs = [] ∨ ∀ k, fC A k → k ≠ b' := by
 rcases hb with rfl | hb
 ·exact h
 ·exact lt.imp_right fun h k hk e => by have := h k hk; omega
theorem aoB {l : List Fd} {w : World} {b b' : Nat} (h : l = [] ∨ ∀ k, lF l k → k ≠ b) (hc : iE w l) (hb : b' = b ∨ w.heap.size ≤ b') : l = [] ∨ ∀ k, lF l k → k ≠ b' := by
 rcases hb with rfl | hb
 ·exact h
 ·exact hc.lt.imp_right fun h k hk e => by have := h k hk; omega
def Zm (l : List Fd) : Prop := ∀ x ∈ l, (GU x.c.os ∧ x.c.os.length ≤ 100000) ∧ (x.id = 1 ∨ x.id = 3 ∨ uq x.c.k)
theorem Zm.get {l : List Fd} (h : Zm l) {k : Nat} {x : Fd} (hx : l[k]? = some x) : (GU x.c.os ∧ x.c.os.length ≤ 100000) ∧ (x.id = 1 ∨ x.id = 3 ∨ uq x.c.k) := h x (List.mem_of_getElem? hx)
section
variable {o r : wu}
theorem amz (h : o.rs = true) (k : o.al = true) : mrg o r = ⟨if o.rep = 0 then r.rep else o.rep, true, true, o.er⟩ := by unfold mrg; rw [h, k]; rfl
theorem amA (h : o.rs = true) (k : o.al = false) : mrg o r = ⟨if o.rep = 0 then r.rep else o.rep, true, r.al, o.er⟩ := by unfold mrg; rw [h, k]; rfl
theorem amB (h : o.rs = false) (k : o.al = true) : mrg o r = ⟨if o.rep = 0 then r.rep else o.rep, r.rs, true, o.er⟩ := by unfold mrg; rw [h, k]; rfl
theorem amC (h : o.rs = false) (k : o.al = false) : mrg o r = ⟨if o.rep = 0 then r.rep else o.rep, r.rs, r.al, o.er⟩ := by unfold mrg; rw [h, k]; rfl
end
end Gs
namespace Gs
open Go Go.Sh
def CJ (m : Nat) (os : List iK) : Prop := os.length ≤ m ∧ ∀ o ∈ os, o.ds.length ≤ m ∧ o.ps.length ≤ m
theorem CJ.mono {m k : Nat} {os : List iK} (h : CJ m os) (hk : m ≤ k) : CJ k os := ⟨by have := h.1; omega, fun o ho => by have := h.2 o ho; omega⟩
theorem CJ.nil (m : Nat) : CJ m [] := ⟨Nat.zero_le _, fun o h => by cases h⟩
def ZB (m : Nat) (f : rZ) : Prop := CJ m f.c.os ∧ (f.id = 1 ∨ f.id = 3 ∨ uq f.c.k)
def CmS (m : Nat) (c : sD) : Prop := CJ m c.c.os ∧ ∀ f ∈ c.fs, ZB m f
theorem akD {P : List Int → sD × Int} (hP : ∀ b, CmS b.length (P b).1) {b : List Int} {f : rZ} (h : FK P b = some f) : ZB b.length f := by
 unfold FK at h
 split at h
 ·rename_i x r
  split at h
  ·unfold EF at h
   split at h
   ·split at h
    ·cases h; exact ⟨CJ.nil _, .inl rfl⟩
    ·cases h
   ·cases h
  split at h
  ·unfold BB at h
   split at h
   ·split at h
    ·cases h; exact ⟨CJ.nil _, .inr (.inl rfl)⟩
    ·cases h
   ·cases h
  split at h
  ·unfold writeM' at h
   split at h
   ·rename_i y z t
    split at h
    ·rename_i hc
     cases h
     exact ⟨(hP (z :: t)).1.mono (by simp only [List.length_cons]; omega), .inr (.inr hc.2.2)⟩
    ·cases h
   ·cases h
  ·cases h
 ·cases h
theorem ZB.mono {m k : Nat} {f : rZ} (h : ZB m f) (hk : m ≤ k) : ZB k f := ⟨h.1.mono hk, h.2⟩
theorem Qp {P : List Int → sD × Int} (hP : ∀ b, CmS b.length (P b).1) : ∀ (m : Nat) (b : List Int), b.length ≤ m → ∀ f ∈ (jM P b).1, ZB b.length f
 | 0, b, hb, f, hf => by
  obtain rfl := List.length_eq_zero_iff.1 (Nat.le_zero.1 hb)
  rw [tX] at hf; cases hf
 | m + 1, b, hb, f, hf => by
  by_cases h0 : b = []
  ·subst h0; rw [tX] at hf; cases hf
  ·rw [jM, if_neg h0] at hf
   split at hf
   ·cases hf
   ·rename_i x r hc
    have hl := wE hc
    split at hf
    ·cases hf
    ·rename_i g hg
     rcases List.mem_cons.1 hf with rfl | hf
     ·exact (akD hP hg).mono (by omega)
     ·exact (Qp hP m r (by omega) f hf).mono (by omega)
theorem TM : ∀ (N : Nat) (b : List Int), CmS b.length (iJ N b).1
 | 0, b => ⟨CJ.nil _, fun f h => by cases h⟩
 | N + 1, b => by
  unfold iJ
  split
  ·exact ⟨CJ.nil _, fun f h => by cases h⟩
  ·rename_i x r
   split
   ·exact ⟨CJ.nil _, fun f h => by cases h⟩
   ·split
    ·split
     ·exact ⟨CJ.nil _, fun f h => by cases h⟩
     ·rename_i w r'
      have h1 := Tt r'.length r' (Nat.le_refl _)
      exact ⟨⟨by show (gu r').1.length ≤ _; simp only [List.length_cons]; omega, fun o ho => by have := h1.2 o ho; simp only [List.length_cons]; omega⟩, fun f h => by cases h⟩
    ·split
     ·refine ⟨CJ.nil _, fun f hf => ?_⟩
      exact (Qp (TM N) r.length r (Nat.le_refl _) f hf).mono (by simp only [List.length_cons]; omega)
     ·exact ⟨CJ.nil _, fun f h => by cases h⟩
theorem aeJ {os : List jc} {m : Nat} (h : CJ m (xN os)) (hm : m ≤ 100000) : GU os ∧ os.length ≤ 100000 := by
 have h1 := h.1
 rw [Zh] at h1
 refine ⟨fun x hx => ?_, by omega⟩
 have h2 : x.ds.length ≤ m ∧ x.ps.length ≤ m := h.2 x.m (List.mem_map.2 ⟨x, hx, rfl⟩)
 exact ⟨by omega, by omega⟩
theorem agl {N : Nat} {b : List Int} {x : qj} {fs : List Fd} {er : Int} (h : iJ N b = (⟨x.m, rX fs⟩, er)) (hb : b.length ≤ 100000) : (GU x.os ∧ x.os.length ≤ 100000) ∧ Zm fs := by
 have hk := TM N b
 rw [h] at hk
 refine ⟨aeJ hk.1 hb, fun f hf => ?_⟩
 have h2 := hk.2 f.m (List.mem_map.2 ⟨f, hf, rfl⟩)
 exact ⟨aeJ h2.1 hb, h2.2⟩
theorem NE {P : List Int → sD × Int} : ∀ {n : Nat} {b : List Int}, b.length ≤ n → (jM P b).1.length ≤ b.length
 | 0, b, hb => by
  obtain rfl := List.length_eq_zero_iff.1 (Nat.le_zero.1 hb)
  rw [tX]; exact Nat.le_refl _
 | n + 1, b, hb => by
  by_cases h0 : b = []
  ·subst h0; rw [tX]; exact Nat.le_refl _
  ·rw [jM, if_neg h0]
   split
   ·exact Nat.zero_le _
   ·rename_i x r hc
    have hl := wE hc
    split
    ·exact Nat.zero_le _
    ·have := NE (P := P) (n := n) (b := r) (by omega)
     simp only [List.length_cons]; omega
theorem agO {N : Nat} {b : List Int} : (iJ N b).1.fs.length ≤ b.length := by
 cases N with
 | zero => exact Nat.zero_le _
 | succ N =>
  unfold iJ
  split
  ·exact Nat.zero_le _
  ·rename_i x r
   split
   ·exact Nat.zero_le _
   ·split
    ·split <;> exact Nat.zero_le _
    ·split
     ·have := NE (P := iJ N) (n := r.length) (b := r) (Nat.le_refl _)
      show (jM (iJ N) r).1.length ≤ _
      simp only [List.length_cons]; omega
     ·exact Nat.zero_le _
theorem agm {N : Nat} {b : List Int} {x : qj} {fs : List Fd} {er : Int} (h : iJ N b = (⟨x.m, rX fs⟩, er)) (hb : b.length ≤ 100000) : fs.length ≤ 100000 := by
 have := agO (N := N) (b := b)
 rw [h] at this
 have h2 : (rX fs).length ≤ b.length := this
 rw [YM] at h2; omega
theorem aoC {s : gV} {c : sD} (h : c.c.k = 243) : zy s c = kU c.c.e c.fs s qw := by unfold zy; rw [if_pos h]
theorem aoD {s : gV} {c : sD} (h : ¬ c.c.k = 243) : zy s c = pq s c.c := by unfold zy; rw [if_neg h]
theorem amE {s : gV} {b : List Int} {x : sD} {e : Int} (h : iJ b.length b = (x, e)) (he : ¬ e = 0) : uK s b = (s, yh e) := by unfold uK G9; rw [h]; dsimp only; rw [if_neg he]
theorem Vk {s : gV} {b : List Int} {x : sD} {e : Int} (h : iJ b.length b = (x, e)) (he : e = 0) : uK s b = zy s x := by unfold uK G9; rw [h]; dsimp only; rw [if_pos he]
theorem Sw.zy {n : Nat} {s : gV} (h : Sw n s) {x : qj} {fs : List Fd} (hx : CG x) (hf : DF fs) : Sw (Gs.zy s ⟨x.m, rX fs⟩).1.cs.length (Gs.zy s ⟨x.m, rX fs⟩).1 := by
 unfold Gs.zy
 split
 ·refine h.fields fun f hm => ?_
  obtain ⟨y, hy, rfl⟩ := List.mem_map.1 hm
  exact uk.of (hf y hy).2.2.2.2
 ·exact h.ZA (uk.of hx.2.2)
end Gs
end
section
namespace Go.Proofs.YtjdoakbadehicaaGreatDoor
open Go Go.Sh
set_option maxRecDepth 100000
theorem QZ {r c cur : Int} {A : Option Addr} {n cp bp B0 : Nat} {cs : List Gs.Cell} {w : World} (ag : Z.h w bp #[Z.i r, Z.i c, .slice A n cp, Z.i cur] 91) (ae : Own B0 w 37 5 (.slice A n cp) (rows Gs.cv cs)) (hn : n = cs.length) (hN : Gs.aY r c = n) (hb : n ≤ 4096) (hcw : Gs.je cs)  :
    oX 107 #[Z.p bp] w fun e w' => ∃ v, e = .returned v ∧ v = Z.i (Gs.DZ cs (Gs.dm cs).length : Nat) ∧ Own B0 w' 37 5 (.slice A n cp) (rows Gs.cv (Gs.rJ cs (Gs.dm cs))) ∧ aB (aG (.slice A n cp)) w w' := by
 refine abg.calls ?_
 unfold abg
 subst hn
 have hsl := Gs.vz cs
 have hF : aB (aG (.slice A cs.length cp)) w w := Fr.refl _ _ _
 refine Z.x _ (fun b1 w1 e1 ah _ U1 => ?_)
 have gZ := ae.apart e1
 refine Z.n (#[Z.i 0]) (fun b2 w2 e2 ay _ U2 => ?_)
 replace ag := U1.af ag
 have fF : bp ≠ b2 := by have := aj ag; omega
 replace ae := ae.ai U1
 have dN := ae.apart e2
 have mf : b1 ≠ b2 := by have := aj ah; omega
 replace hF := hF.go0 U1
 have fD : w.heap.size ≤ b2 := by have := hF.size; omega
 refine Z.s ay (fun w3 ay _ U3 => ?_)
 refine bQ (fun g w' => ∃ (D2 : Nat), (g 1000000 = mkV D2 undef) ∧ (w.heap.size ≤ D2) ∧ (w'.heap[D2]? = some (.deferred (some []))) ∧ (Z.h w' b2 #[Z.i (Gs.DZ cs (Gs.dm cs).length : Nat)] 3) ∧ (Own B0 w' 37 5 (.slice A cs.length cp) (rows Gs.cv (Gs.rJ cs (Gs.dm cs)))) ∧ (aB (aG (.slice A cs.length cp)) w w')) (fun J1 hJ1 => ?_) (fun gJ1 jY hI => ?_)
 replace ah := U3.au (U2.af ah) mf
 refine Z.l ah ?_
 replace ae := (ae.ai U2).aF U3 dN
 replace ag := U3.au (U2.af ag) fF
 refine aI (Bf ag ae rfl) (fun v4 w4 D4 => ?_)
 obtain ⟨b1_6, rfl, g1_6, nM, U4⟩ := D4
 have Uj : ∀ k, aG _ k → k ≠ b1_6 := fun k hk => by have := (Own.ge ae hk).2; omega
 have abS : b2 ≠ b1_6 := by have := aj ay; omega
 refine wL (by kernel_rfl) (fun w5 l2 D2 Rdy2 Bsy2 Dn2 y2 eD el bz bC lp1 lp2 lp3 sz5 U5 hY => ?_)
 have lp2_2 := lp2
 replace ag := U4.af ag
 have iL : bp ≠ l2 := by have := aj ag; omega
 replace ae := ae.ai U4
 have ug : ∀ k, aG _ k → k ≠ D2 := fun k hk => by have := (Own.ge ae hk).2; omega
 have fB : ∀ k, aG _ k → k ≠ l2 := fun k hk => by have := (Own.ge ae hk).2; omega
 replace ah := U4.af ah
 have iR : b1 ≠ l2 := by have := aj ah; omega
 replace ay := U4.af ay
 have uQ : b2 ≠ D2 := by have := aj ay; omega
 have gU : b2 ≠ l2 := by have := aj ay; omega
 have CX : b1_6 ≠ l2 := by have := aj nM; omega
 replace hF := ((hF.go0 U2).go1 U3 fD).go0 U4
 have oK : w.heap.size ≤ D2 := by have := hF.size; omega
 have jR : w.heap.size ≤ l2 := by have := hF.size; omega
 have fK : D2 ≠ l2 := by omega
 replace ae := ae.ai U5
 replace ag := U5.af ag
 replace ah := U5.af ah
 replace ay := U5.af ay
 replace nM := U5.af nM
 replace hF := hF.go0 U5
 refine Calls.mono (yz (b1 := b1_6) (csF := (fun k => Gs.rJ cs ((Gs.dm cs).take k))) (J := (fun (k : Nat) (w' : World) => (Z.h w' bp #[Z.i r, Z.i c, .slice A cs.length cp, Z.i cur] 91) ∧ (Own B0 w' 37 5 (.slice A cs.length cp) (rows Gs.cv (Gs.rJ cs ((Gs.dm cs).take k)))) ∧ (Z.h w' b2 #[Z.i (Gs.DZ cs k : Nat)] 3) ∧ (Z.h w' b1_6 #[Z.p bp] 33) ∧ (Z.h w' b1 #[Z.p bp] 33) ∧ (w'.heap[D2]? = some (.deferred (some []))) ∧ (w'.heap[l2]? = some Rdy2) ∧ (aB (aG (.slice A cs.length cp)) w w'))) (X := (fun _ => False)) (fun _ w' hJ => by obtain ⟨ag, ae, ay, nM, ah, bz, bC, hF⟩ := hJ; exact ⟨nM, ag, ae⟩) (fun _ w' w'' hJ U' => by obtain ⟨ag, ae, ay, nM, ah, bz, bC, hF⟩ := hJ; exact ⟨U'.af ag, ae.ai U', U'.af ay, U'.af nM, U'.af ah, U'.af bz, U'.af bC, hF.go0 U'⟩) (fun _ _ h _ => h.elim) (fun _ => Gs.Gz cs _) (fun _ => Gs.UB hcw _) (fun _ _ => by rw [Gs.V4, Gs.V4]) hN hb ?_ ?_) ?_
 intro k qW xk hx hI
 obtain ⟨ag, ae, ay, nM, ah, bz, bC, hF⟩ := hI
 have hx : (Gs.dm cs)[k]? = some xk := hx
 have hk := (List.getElem?_eq_some_iff.1 hx).1
 have hxm := Gs.uT.1 (List.mem_of_getElem? hx)
 have hxn := hxm.1
 have hle := Gs.ajw cs k
 refine hY [.agg (Gs.fv (Gs.lG (Gs.rJ cs ((Gs.dm cs).take k)) xk)).toArray] _ _ rfl bC ?_
 simp only [List.getD_cons_zero, List.getD_cons_succ]
 refine Z.n ((Gs.fv Gs.zf).toArray) (fun b6 w6 e6 pg _ U6 => ?_)
 have wO : bp ≠ b6 := by have := aj ag; omega
 have qg := ae.apart e6
 have Ea : b2 ≠ b6 := by have := aj ay; omega
 have PT : b1_6 ≠ b6 := by have := aj nM; omega
 have Ip : b1 ≠ b6 := by have := aj ah; omega
 have V5 : D2 ≠ b6 := by have := aj bz; omega
 have V6 : l2 ≠ b6 := by have := aj bC; omega
 have yw : w.heap.size ≤ b6 := by have := hF.size; omega
 refine Z.t 3 ((Gs.fv (Gs.lG (Gs.rJ cs ((Gs.dm cs).take k)) xk)).toArray) (by (simp [Value.cells, Value.oneCell', Gs.cv, Gs.fv]; done)) pg (fun w7 pg _ U7 => ?_)
 replace bC := U7.au (U6.af bC) V6
 refine zu bC (fun w8 bC _ U8 => ?_)
 refine Z.f 2 ?_
 replace pg := U8.au pg (Ne.symm V6)
 refine Z.l pg ?_
 refine eF (EL (Gs.abf (Gs.UB hcw _) xk)) (fun w9 U9 h9 => ?_) (fun w9 U9 h9 => ?_)
 simp only [Z.d, Z.c] at h9
 refine aK ?_
 replace ay := U9.af (U8.au (U7.au (U6.af ay) Ea) gU)
 refine Z.l ay ?_
 refine ak (dJ _ (by omega)) ?_
 refine Z.s ay (fun w10 ay _ aX => ?_)
 replace ah := aX.au (U9.af (U8.au (U7.au (U6.af ah) Ip) iR)) mf
 refine Z.l ah ?_
 refine Z.f 0 ?_
 replace pg := aX.au (U9.af pg) (Ne.symm Ea)
 refine Z.l pg ?_
 replace ae := ((((ae.ai U6).aF U7 qg).aF U8 fB).ai U9).aF aX dN
 replace ag := aX.au (U9.af (U8.au (U7.au (U6.af ag) wO) iL)) fF
 refine aI (Oc ag ae (Gs.Gz cs _) hN hb (Gs.UB hcw _) (i := (xk : Int)) ⟨by omega, by rw [← Gs.Gz]; omega⟩) (fun v11 nT D11 => ?_)
 obtain ⟨N11, bD⟩ := D11
 have aN := ae
 replace ag := bD.get ag (fun h => Own.aT aN ag (by decide) _ h rfl)
 replace ae := N11
 replace ay := bD.get ay (fun h => dN _ h rfl)
 replace nM := aX.au (U9.af (U8.au (U7.au (U6.af nM) PT) CX)) (Ne.symm abS)
 replace nM := bD.get nM (fun h => Uj _ h rfl)
 replace ah := bD.get ah (fun h => gZ _ h rfl)
 replace bz := aX.au (U9.af (U8.au (U7.au (U6.af bz) V5) fK)) (Ne.symm uQ)
 replace bz := bD.get bz (fun h => ug _ h rfl)
 replace bC := aX.au (U9.af bC) (Ne.symm gU)
 replace bC := bD.get bC (fun h => fB _ h rfl)
 replace hF := ((((hF.go0 U6).go1 U7 yw).go1 U8 jR).go0 U9).go1 aX fD
 replace hF := hF.go bD (fun i h hs => by exact hs)
 clear aN
 refine uO bC (fun w12 bC _ bW => ?_)
 replace ae := ae.aF bW fB
 replace ag := bW.au ag iL
 replace ay := bW.au ay gU
 replace nM := bW.au nM CX
 replace ah := bW.au ah iR
 replace bz := bW.au bz fK
 replace hF := hF.go1 bW jR
 exact ⟨ag, (by rw [Gs.VZ hx]; (rw [if_pos ((Gs.LV hx).1 (by assumption))]; exact ae)), (by (rw [Gs.alO hx ((Gs.LV hx).1 (by assumption))]; exact ay)), nM, ah, bz, bC, hF⟩
 simp only [Z.d, Z.c] at h9
 refine aH ?_
 replace bC := U9.af bC
 refine uO bC (fun ve bC _ dC => ?_)
 replace ae := ((((ae.ai U6).aF U7 qg).aF U8 fB).ai U9).aF dC fB
 replace ag := dC.au (U9.af (U8.au (U7.au (U6.af ag) wO) iL)) iL
 replace ay := dC.au (U9.af (U8.au (U7.au (U6.af ay) Ea) gU)) gU
 replace nM := dC.au (U9.af (U8.au (U7.au (U6.af nM) PT) CX)) CX
 replace ah := dC.au (U9.af (U8.au (U7.au (U6.af ah) Ip) iR)) iR
 replace bz := dC.au (U9.af (U8.au (U7.au (U6.af bz) V5) fK)) fK
 replace hF := ((((hF.go0 U6).go1 U7 yw).go1 U8 jR).go0 U9).go1 dC jR
 exact ⟨ag, (by rw [Gs.VZ hx]; (rw [if_neg (fun ho => absurd ((Gs.LV hx).2 ho) (by assumption))]; exact ae)), (by (rw [Gs.alP hx (fun ho => absurd ((Gs.LV hx).2 ho) (by assumption))]; exact ay)), nM, ah, bz, bC, hF⟩
 exact ⟨ag, ae, ay, nM, ah, bz, bC, hF⟩
 rintro e wE2 ⟨hv, hI | hI⟩
 obtain ⟨ag, ae, ay, nM, ah, bz, bC, hF⟩ := hI
 refine ⟨hv, .inl ⟨bC, fun rF _ bZ => ?_⟩⟩
 refine hJ1 _ _ ?_
 replace ae := ae.aF bZ fB
 replace ay := bZ.au ay gU
 replace bz := bZ.au bz fK
 replace hF := hF.go1 bZ jR
 exact ⟨_, (by rfl), oK, bz, ay, (by have h5 := ae; rw [show ((Gs.dm cs).take (Gs.dm (Gs.rJ cs ((Gs.dm cs).take 0))).length) = Gs.dm cs from List.take_of_length_le (Nat.le_refl _)] at h5; exact h5), hF⟩
 exact hI.elim
 replace ae := (ae.ai U2).aF U3 dN
 replace hF := (hF.go0 U2).go1 U3 fD
 obtain ⟨D2, g1000000, oK, bz, ay, ae, hF⟩ := hI
 rw [g1000000]
 refine Z.l ay ?_
 refine leave1 bz (fun w16 _ bU => ?_)
 replace ae := ae.aF bU (Own.lV ae (by assumption))
 replace hF := hF.go1 bU oK
 exact ⟨_, rfl, rfl, ae, hF⟩
theorem Ul {r c cur : Int} {A : Option Addr} {n cp bp B0 : Nat} {cs : List Gs.Cell} {w : World} (ag : Z.h w bp #[Z.i r, Z.i c, .slice A n cp, Z.i cur] 91) (ae : Own B0 w 37 5 (.slice A n cp) (rows Gs.cv cs)) (hW : Gs.Pw r c n cs cur) {os : List Gs.jc} {oA : Option Addr} {on oc : Nat} (bK : Rd w oA (rows Gs.oe os)) (hon : on = os.length) (hol : on ≤ 100000) (dM : Gs.kR w os) (how : Gs.DL os) (hln : Gs.GU os) (nar1 : rows Gs.oe os = [] ∨ ∀ k, fC oA k → ¬ aG (.slice A n cp) k) (nar2 : rows Gs.oe os = [] ∨ ∀ k, fC oA k → k ≠ bp) (na1 : os = [] ∨ ∀ k, Gs.jP os k → ¬ aG (.slice A n cp) k) (na2 : os = [] ∨ ∀ k, Gs.jP os k → k ≠ bp) {i : Int} (hi : 0 ≤ i ∧ i < n) :
    oX 150 #[Z.p bp, .slice oA on oc, Z.i i] w fun e w' => ∃ v, e = .returned v ∧ ∃ (at' dn : Int), v = .tuple #[Z.i at', Z.i dn, Z.i (Gs.jW (Gs.xN os) (⟨cs, cur, i, Gs.zc, false⟩ : Gs.Br)).2] ∧ Z.h w' bp #[Z.i r, Z.i c, .slice A n cp, Z.i (Gs.jW (Gs.xN os) (⟨cs, cur, i, Gs.zc, false⟩ : Gs.Br)).1.cur] 91 ∧ Own B0 w' 37 5 (.slice A n cp) (rows Gs.cv (Gs.jW (Gs.xN os) (⟨cs, cur, i, Gs.zc, false⟩ : Gs.Br)).1.cs) ∧ aB (fun k => aG (.slice A n cp) k ∨ k = bp) w w' := by
 refine abl.calls ?_
 unfold abl
 obtain ⟨hn, hcw, hcu, hp, hN, hb⟩ := id hW; have hrc := hW.rc
 subst hon
 have hos := Gs.Zh os
 have xC := aj ag
 have lJ := Own.lt ae
 have Pq := bK.lt
 have amk := dM.lt
 have hF : aB (fun k => aG (.slice A n cp) k ∨ k = bp) w w := Fr.refl _ _ _
 refine jQ (lss _ _ _ _) (by omega) ?_
 refine aW (aW (aW ?_))
 refine aA (fH ag ae hn) (fun w1 U1 => ?_)
 refine aW ?_
 refine jQ (geq _ _ _ _) (by omega) ?_
 refine aQ (aH ?_)
 refine ak (bF (l := [(0, 1), (1, 1), (2, 5), (7, 1)]) (z := #[.pointer none, Z.i 0, Z.u 0, .bool false, .bool false, Z.u 0, Z.u 0, .bool false]) (cs := [Z.p bp, Z.i i, Z.u 0, .bool false, .bool false, Z.u 0, Z.u 0, .bool false]) (by kernel_rfl) (by rfl)) ?_
 refine Z.x (#[Z.p bp, Z.i i, Z.u 0, .bool false, .bool false, Z.u 0, Z.u 0, .bool false]) (fun b3 w3 e3 bG _ U3 => ?_)
 replace ag := U1.af ag
 have lm : bp ≠ b3 := by have := aj ag; omega
 replace ae := ae.ai U1
 have iO := ae.apart e3
 replace bK := bK.ai U1
 have aea := bK.apart e3
 replace dM := dM.ai U1
 have zh := dM.apart e3
 replace hF := hF.go0 U1
 have jH : w.heap.size ≤ b3 := by have := hF.size; omega
 refine bQ (fun g w' => ∃ (b : Gs.Br), ((Gs.jW (Gs.xN os) (⟨cs, cur, i, Gs.zc, false⟩ : Gs.Br)) = (b, 0)) ∧ (Z.h w' bp #[Z.i r, Z.i c, .slice A n cp, Z.i b.cur] 91) ∧ (Own B0 w' 37 5 (.slice A n cp) (rows Gs.cv b.cs)) ∧ (Z.h w' b3 #[Z.p bp, Z.i b.at', Z.u b.lk.b, .bool b.lk.ge, .bool b.lk.st, Z.u b.lk.l, Z.u b.lk.c, .bool b.ld] 229) ∧ (Rd w' oA (rows Gs.oe os)) ∧ (Gs.kR w' os) ∧ (aB (fun k => aG (.slice A n cp) k ∨ k = bp) w w')) (fun J1 hJ1 => ?_) (fun gJ1 jY hI => ?_)
 refine ak (gK (by kernel_rfl) _ _ _) ?_
 refine eG (fun g w' => ∃ (k : Nat) (b : Gs.Br), (g 27 = Z.i (k : Int)) ∧ (k ≤ os.length) ∧ ((Gs.jW (Gs.xN os) (⟨cs, cur, i, Gs.zc, false⟩ : Gs.Br)) = Gs.jW ((Gs.xN os).drop k) b) ∧ (Gs.Bw r c n b) ∧ (Z.h w' bp #[Z.i r, Z.i c, .slice A n cp, Z.i b.cur] 91) ∧ (Own B0 w' 37 5 (.slice A n cp) (rows Gs.cv b.cs)) ∧ (Z.h w' b3 #[Z.p bp, Z.i b.at', Z.u b.lk.b, .bool b.lk.ge, .bool b.lk.st, Z.u b.lk.l, Z.u b.lk.c, .bool b.ld] 229) ∧ (Rd w' oA (rows Gs.oe os)) ∧ (Gs.kR w' os) ∧ (aB (fun k => aG (.slice A n cp) k ∨ k = bp) w w')) (fun g w' => os.length - (RowKit.intOf (g 27)).toNat) ?_ (fun g2 qW hI => ?_)
 replace ae := ae.ai U3
 replace bK := bK.ai U3
 replace dM := dM.ai U3
 replace ag := U3.af ag
 replace hF := hF.go0 U3
 exact ⟨0, (⟨cs, cur, i, Gs.zc, false⟩ : Gs.Br), (by rfl), Nat.zero_le _, rfl, ⟨hW, hi, Gs.DU⟩, ag, ae, bG, bK, dM, hF⟩
 replace ae := ae.ai U3
 replace bK := bK.ai U3
 replace dM := dM.ai U3
 replace ag := U3.af ag
 replace hF := hF.go0 U3
 obtain ⟨k, b, g27, hk, hinv, hBk, ag, ae, bG, bK, dM, hF⟩ := hI
 rw [g27]
 refine az (lss _ _ _ _) (fun h4 => ?_) (fun h4 => ?_)
 refine aK ?_
 refine tK Gs.CQ (by kernel_rfl) (by kernel_rfl) bK (by rfl) (by omega) (by omega) (fun x5 hx5 => ?_)
 simp only [Int.toNat_natCast] at hx5
 refine Z.n ((Gs.oe (Gs.cu 0 0 0 false)).toArray) (fun b6 w6 e6 pg _ U6 => ?_)
 have wO : bp ≠ b6 := by have := aj ag; omega
 have qg := ae.apart e6
 have Ov : b3 ≠ b6 := by have := aj bG; omega
 have aeb := bK.apart e6
 have aec := dM.apart e6
 have yw : w.heap.size ≤ b6 := by have := hF.size; omega
 refine Z.t 6 ((Gs.oe x5).toArray) (by (simp [Value.cells, Value.oneCell', Gs.cv, Gs.fv, Gs.ie, Gs.pe, Gs.oe, Gs.cu, Gs.fe, Gs.eY, Gs.ce, Gs.dZ, Gs.re]; done)) pg (fun w7 pg _ U7 => ?_)
 refine Z.b 6 ((Gs.oe x5).toArray) pg ?_
 replace ae := (ae.ai U6).aF U7 qg
 replace dM := (dM.ai U6).aF U7 aec
 replace ag := U7.au (U6.af ag) wO
 replace bG := U7.au (U6.af bG) Ov
 refine aI (ajW (b := b) ag ae bG hBk (dM.get hx5) (how.get hx5) (hln.get hx5) (Gs.WR na1 hx5) (Gs.WR na2 hx5) (Gs.WR zh hx5)) (fun v8 w8 D8 => ?_)
 have aN := ae
 replace hF := (hF.go0 U6).go1 U7 yw
 have qF8 := hF.size
 obtain ⟨rfl, ag, ae, bG, U8⟩ := D8
 replace bK := (bK.ai U6).aF U7 aeb
 replace bK := bK.dO U8 (nar1.elim .inl fun h0 => nar2.elim .inl fun h1 => aea.elim .inl fun h2 => .inr fun k hk hs => by rcases hs with (hs | hs) | hs <;> first | exact h0 k hk hs | exact h1 k hk hs | exact h2 k hk hs)
 replace dM := dM.dO U8 (na1.elim .inl fun h0 => na2.elim .inl fun h1 => zh.elim .inl fun h2 => .inr fun k hk hs => by rcases hs with (hs | hs) | hs <;> first | exact h0 k hk hs | exact h1 k hk hs | exact h2 k hk hs)
 replace hF := hF.go U8 (fun i hi hs => by (rcases hs with (hs | hs) | hs <;> first | exact .inl hs | exact .inr hs | (subst hs; omega)))
 clear aN
 refine az (jO _ _ _ _ _) (fun h9 => ?_) (fun h9 => ?_)
 refine aK ?_
 refine dB ?_
 refine Z.f 1 ?_
 refine Z.l bG ?_
 rw [Gs.acf hinv (Gs.Zi hx5) (by assumption)]; exact ⟨_, rfl, _, _, rfl, ag, ae, hF⟩
 refine aH ?_
 refine ak (dJ _ (by omega)) ?_
 exact ⟨⟨k + 1, (Gs.qL x5.m b).1, (by rfl), by omega, (Gs.Yk hinv (Gs.Zi hx5) (Classical.not_not.1 (by assumption))), (hBk.do (how.get hx5).2.1 (how.get hx5).2.2.1), ag, ae, bG, bK, dM, hF⟩, cnt_lt (by rfl) rfl (by omega)⟩
 refine aH ?_
 refine hJ1 _ _ ?_
 exact ⟨_, (Gs.acg hinv (by omega)), ag, ae, bG, bK, dM, hF⟩
 replace ae := ae.ai U3
 replace bK := bK.ai U3
 replace dM := dM.ai U3
 replace ag := U3.af ag
 replace hF := hF.go0 U3
 obtain ⟨b, hfin, ag, ae, bG, bK, dM, hF⟩ := hI
 refine dB ?_
 refine Z.f 1 ?_
 refine Z.l bG ?_
 refine ak (gK (by kernel_rfl) _ _ _) ?_
 rw [hfin]; exact ⟨_, rfl, _, _, rfl, ag, ae, hF⟩
theorem Kt {r c cur : Int} {A : Option Addr} {n cp bp B0 : Nat} {cs : List Gs.Cell} {w : World} (ag : Z.h w bp #[Z.i r, Z.i c, .slice A n cp, Z.i cur] 91) (ae : Own B0 w 37 5 (.slice A n cp) (rows Gs.cv cs)) (hW : Gs.Pw r c n cs cur)  :
    oX 90 #[Z.p bp] w fun e w' => ∃ v, e = .returned v ∧ ∃ q : Int, v = Z.i q ∧ Z.h w' bp #[Z.i r, Z.i c, .slice A n cp, Z.i (Gs.um (Gs.sS cs))] 91 ∧ Own B0 w' 37 5 (.slice A n cp) (rows Gs.cv (Gs.sS cs)) ∧ aB (fun k => aG (.slice A n cp) k ∨ k = bp) w w' := by
 refine F90.calls ?_
 unfold F90
 obtain ⟨hn, hcw, hcu, hp, hN, hb⟩ := id hW; have hrc := hW.rc
 have xC := aj ag
 have lJ := Own.lt ae
 have hF : aB (fun k => aG (.slice A n cp) k ∨ k = bp) w w := Fr.refl _ _ _
 refine Z.x _ (fun b1 w1 e1 ah _ U1 => ?_)
 have jJ : bp ≠ b1 := by have := aj ag; omega
 have gZ := ae.apart e1
 have bY : w.heap.size ≤ b1 := by have := hF.size; omega
 refine bQ (fun g w' => ∃ (m : Int), (g 3 = Z.i m) ∧ (Z.h w' bp #[Z.i r, Z.i c, .slice A n cp, Z.i cur] 91) ∧ (Own B0 w' 37 5 (.slice A n cp) (rows Gs.cv (Gs.o5 cs (Gs.jA cs)))) ∧ (Z.h w' b1 #[Z.p bp] 33) ∧ (aB (fun k => aG (.slice A n cp) k ∨ k = bp) w w')) (fun J1 hJ1 => ?_) (fun gJ1 jY hI => ?_)
 refine Z.l ah ?_
 replace ae := ae.ai U1
 replace ag := U1.af ag
 refine aA (fH ag ae hn) (fun w2 U2 => ?_)
 refine eG (fun g w' => ∃ (k : Nat) (m : Int), (g 9 = Z.i (k : Int)) ∧ (k ≤ n) ∧ (g 3 = Z.i m) ∧ (Z.h w' bp #[Z.i r, Z.i c, .slice A n cp, Z.i cur] 91) ∧ (Own B0 w' 37 5 (.slice A n cp) (rows Gs.cv (Gs.o5 cs ((Gs.jA cs).take k)))) ∧ (Z.h w' b1 #[Z.p bp] 33) ∧ (aB (fun k => aG (.slice A n cp) k ∨ k = bp) w w')) (fun g w' => n - (RowKit.intOf (g 9)).toNat) ?_ (fun g2 qW hI => ?_)
 replace hF := (hF.go0 U1).go0 U2
 replace ae := ae.ai U2
 replace ag := U2.af ag
 replace ah := U2.af ah
 exact ⟨0, 0, (by rfl), Nat.zero_le _, (by rfl), ag, (by rw [List.take_zero]; exact ae), ah, hF⟩
 replace hF := (hF.go0 U1).go0 U2
 replace ae := ae.ai U2
 replace ag := U2.af ag
 replace ah := U2.af ah
 obtain ⟨k, m, g9, hk, g3, ag, ae, ah, hF⟩ := hI
 rw [g9]
 rw [g3]
 have hwk := Gs.GR hcw ((Gs.jA cs).take k)
 have hlk := hn.trans hwk.2.symm
 refine az (lss _ _ _ _) (fun h3 => ?_) (fun h3 => ?_)
 refine aK ?_
 refine bQ (fun g w' => ∃ (m : Int), (g 3 = Z.i m) ∧ (Z.h w' bp #[Z.i r, Z.i c, .slice A n cp, Z.i cur] 91) ∧ (Own B0 w' 37 5 (.slice A n cp) (rows Gs.cv (Gs.o5 cs ((Gs.jA cs).take (k + 1))))) ∧ (Z.h w' b1 #[Z.p bp] 33) ∧ (aB (fun k => aG (.slice A n cp) k ∨ k = bp) w w')) (fun J3 hJ3 => ?_) (fun gJ3 KA hI => ?_)
 refine Z.l ah ?_
 refine eF (oZ ag ae hlk hN hb hwk.1 (i := (k : Int))) (fun w4 U4 h4 => ?_) (fun w4 U4 h4 => ?_)
 refine aK ?_
 replace ah := U4.af ah
 refine Z.l ah ?_
 refine ak (bF (l := [(0, 1), (1, 1), (2, 1), (3, 1), (4, 1)]) (z := #[Z.u 0, .bool false, .bool false, Z.u 0, Z.u 0]) (cs := (Gs.cv Gs.zc)) (by kernel_rfl) (by rfl)) ?_
 replace ae := ae.ai U4
 replace ag := U4.af ag
 refine aI (jZ ag ae hlk (i := (k : Int)) (x := Gs.zc)) (fun v5 w5 D5 => ?_)
 obtain ⟨rfl, N5, U5⟩ := D5
 have aN := ae
 replace ag := U5.get ag (fun h => Own.aT aN ag (by decide) _ h rfl)
 replace ae := N5
 replace ah := U5.get ah (fun h => gZ _ h rfl)
 replace hF := hF.go0 U4
 replace hF := hF.go U5 (fun i h hs => .inl hs)
 clear aN
 refine ak (Kr _ _ _ _) ?_
 refine hJ3 _ _ ?_
 exact ⟨_, (by rfl), ag, (by rw [Gs.Dc (Gs.CZ (by omega))]; (rw [if_pos (by assumption)]; exact ae)), ah, hF⟩
 refine aH ?_
 refine hJ3 _ _ ?_
 replace ae := ae.ai U4
 replace ag := U4.af ag
 replace ah := U4.af ah
 replace hF := hF.go0 U4
 exact ⟨_, (by exact g3), ag, (by rw [Gs.Dc (Gs.CZ (by omega))]; (rw [if_neg (Bool.eq_false_iff.1 (by assumption))]; exact ae)), ah, hF⟩
 obtain ⟨m, g3, ag, ae, ah, hF⟩ := hI
 refine ak (dJ _ (by omega)) ?_
 exact ⟨⟨k + 1, _, (by rfl), by omega, (by exact g3), ag, ae, ah, hF⟩, cnt_lt (by rfl) rfl (by omega)⟩
 refine aH ?_
 refine hJ1 _ _ ?_
 exact ⟨_, (by exact g3), ag, (by rw [List.take_of_length_le (by rw [Gs.Bg]; omega)] at ae; exact ae), ah, hF⟩
 replace ae := ae.ai U1
 replace ag := U1.af ag
 replace hF := hF.go0 U1
 obtain ⟨m, g3, ag, ae, ah, hF⟩ := hI
 rw [g3]
 obtain ⟨cw, hcwd⟩ : ∃ x, x = Gs.o5 cs (Gs.jA cs) := ⟨_, rfl⟩
 have hwl := Gs.GR hcw (Gs.jA cs)
 rw [← hcwd] at ae hwl
 have hnw := hn.trans hwl.2.symm
 refine bQ (fun g w' => ∃ (D5 : Nat), (g 1000000 = mkV D5 undef) ∧ (w.heap.size ≤ D5) ∧ (w'.heap[D5]? = some (.deferred (some []))) ∧ (Z.h w' bp #[Z.i r, Z.i c, .slice A n cp, Z.i cur] 91) ∧ (Own B0 w' 37 5 (.slice A n cp) (rows Gs.cv (Gs.rM cw (Gs.dm cw)))) ∧ (Z.h w' b1 #[Z.p bp] 33) ∧ (aB (fun k => aG (.slice A n cp) k ∨ k = bp) w w')) (fun J4 hJ4 => ?_) (fun gJ4 wJ4 hI => ?_)
 refine Z.l ah ?_
 refine aI (Bf ag ae hnw) (fun v6 w6 D6 => ?_)
 obtain ⟨b1_23, rfl, g1_23, kF, U6⟩ := D6
 have anZ : bp ≠ b1_23 := by have := aj ag; omega
 have Rk : ∀ k, aG _ k → k ≠ b1_23 := fun k hk => by have := (Own.ge ae hk).2; omega
 have an0 : b1 ≠ b1_23 := by have := aj ah; omega
 have aqW : w.heap.size ≤ b1_23 := by have := hF.size; omega
 refine wL (by kernel_rfl) (fun w7 l5 D5 Rdy5 Bsy5 Dn5 y5 eD el gm iF lp1 lp2 lp3 sz7 U7 hY => ?_)
 have lp2_5 := lp2
 replace ag := U6.af ag
 have afD : bp ≠ D5 := by have := aj ag; omega
 have qH : bp ≠ l5 := by have := aj ag; omega
 replace ae := ae.ai U6
 have Nb : ∀ k, aG _ k → k ≠ D5 := fun k hk => by have := (Own.ge ae hk).2; omega
 have lX : ∀ k, aG _ k → k ≠ l5 := fun k hk => by have := (Own.ge ae hk).2; omega
 replace ah := U6.af ah
 have afC : b1 ≠ D5 := by have := aj ah; omega
 have tY : b1 ≠ l5 := by have := aj ah; omega
 have an1 : b1_23 ≠ D5 := by have := aj kF; omega
 have Bl : b1_23 ≠ l5 := by have := aj kF; omega
 replace hF := hF.go0 U6
 have Ic : w.heap.size ≤ D5 := by have := hF.size; omega
 have xE : w.heap.size ≤ l5 := by have := hF.size; omega
 have pX : D5 ≠ l5 := by omega
 replace ae := ae.ai U7
 replace ag := U7.af ag
 replace ah := U7.af ah
 replace kF := U7.af kF
 replace hF := hF.go0 U7
 refine Calls.mono (yz (b1 := b1_23) (csF := fun k => Gs.rM cw ((Gs.dm cw).take k)) (J := (fun (k : Nat) (w' : World) => (Z.h w' bp #[Z.i r, Z.i c, .slice A n cp, Z.i cur] 91) ∧ (Own B0 w' 37 5 (.slice A n cp) (rows Gs.cv (Gs.rM cw ((Gs.dm cw).take k)))) ∧ (Z.h w' b1_23 #[Z.p bp] 33) ∧ (Z.h w' b1 #[Z.p bp] 33) ∧ (w'.heap[D5]? = some (.deferred (some []))) ∧ (w'.heap[l5]? = some Rdy5) ∧ (aB (fun k => aG (.slice A n cp) k ∨ k = bp) w w'))) (X := (fun _ => False)) (fun _ w' hJ => by obtain ⟨ag, ae, kF, ah, gm, iF, hF⟩ := hJ; exact ⟨kF, ag, ae⟩) (fun _ w' w'' hJ U' => by obtain ⟨ag, ae, kF, ah, gm, iF, hF⟩ := hJ; exact ⟨U'.af ag, ae.ai U', U'.af kF, U'.af ah, U'.af gm, U'.af iF, hF.go0 U'⟩) (fun _ _ h _ => h.elim) (fun _ => hnw.trans (Gs.yV cw _)) (fun _ => Gs.LM hwl.1 _) (fun _ _ => by rw [Gs.adm, Gs.adm]) hN hb ?_ ?_) ?_
 intro k wl5 xk hx hI
 obtain ⟨ag, ae, kF, ah, gm, iF, hF⟩ := hI
 have hx : (Gs.dm cw)[k]? = some xk := hx
 have hk := (List.getElem?_eq_some_iff.1 hx).1
 have hxm := Gs.uT.1 (List.mem_of_getElem? hx)
 have hxn := hxm.1
 have hgw := Gs.sO (Gs.LM hwl.1 ((Gs.dm cw).take k)) (xk : Int)
 have hol := Gs.yV cw ((Gs.dm cw).take k)
 refine hY [.agg (Gs.fv (Gs.lG (Gs.rM cw ((Gs.dm cw).take k)) xk)).toArray] _ _ rfl iF ?_
 simp only [List.getD_cons_zero, List.getD_cons_succ]
 refine Z.n ((Gs.fv Gs.zf).toArray) (fun b8 w8 e8 lI _ U8 => ?_)
 have wY : bp ≠ b8 := by have := aj ag; omega
 have rq := ae.apart e8
 have Np : b1_23 ≠ b8 := by have := aj kF; omega
 have AX : b1 ≠ b8 := by have := aj ah; omega
 have WS : D5 ≠ b8 := by have := aj gm; omega
 have WT : l5 ≠ b8 := by have := aj iF; omega
 have Fa : w.heap.size ≤ b8 := by have := hF.size; omega
 refine Z.t 3 ((Gs.fv (Gs.lG (Gs.rM cw ((Gs.dm cw).take k)) xk)).toArray) (by (simp [Value.cells, Value.oneCell', Gs.cv, Gs.fv, Gs.ie, Gs.pe, Gs.oe, Gs.cu, Gs.fe, Gs.eY, Gs.ce, Gs.dZ, Gs.re]; done)) lI (fun w9 lI _ U9 => ?_)
 replace iF := U9.au (U8.af iF) WT
 refine zu iF (fun w10 iF _ aX => ?_)
 refine Z.f 2 ?_
 replace lI := aX.au lI (Ne.symm WT)
 refine Z.l lI ?_
 refine eF (pV (Gs.abf (Gs.LM hwl.1 _) xk)) (fun nT bD h11 => ?_) (fun nT bD h11 => ?_)
 simp only [Z.d, Z.c] at h11
 refine aK ?_
 replace iF := bD.af iF
 refine uO iF (fun w12 iF _ bW => ?_)
 replace ae := ((((ae.ai U8).aF U9 rq).aF aX lX).ai bD).aF bW lX
 replace ag := bW.au (bD.af (aX.au (U9.au (U8.af ag) wY) qH)) qH
 replace kF := bW.au (bD.af (aX.au (U9.au (U8.af kF) Np) Bl)) Bl
 replace ah := bW.au (bD.af (aX.au (U9.au (U8.af ah) AX) tY)) tY
 replace gm := bW.au (bD.af (aX.au (U9.au (U8.af gm) WS) pX)) pX
 replace hF := ((((hF.go0 U8).go1 U9 Fa).go1 aX xE).go0 bD).go1 bW xE
 exact ⟨ag, (by rw [Gs.VN hx]; have hpr := Gs.VQ hx; unfold Gs.uo; (rw [if_pos (decide_eq_true (by omega))]; exact ae)), kF, ah, gm, iF, hF⟩
 simp only [Z.d, Z.c] at h11
 refine aH ?_
 replace ah := bD.af (aX.au (U9.au (U8.af ah) AX) tY)
 refine Z.l ah ?_
 refine Z.f 0 ?_
 replace lI := bD.af lI
 refine Z.l lI ?_
 replace ae := (((ae.ai U8).aF U9 rq).aF aX lX).ai bD
 replace ag := bD.af (aX.au (U9.au (U8.af ag) wY) qH)
 refine aA (gy ag ae (hnw.trans hol) (i := (xk : Int))) (fun ve dC => ?_)
 refine Z.n ((Gs.cv Gs.zc).toArray) (fun b14 rF e14 dW _ bZ => ?_)
 replace ag := dC.af ag
 have wQ : bp ≠ b14 := by have := aj ag; omega
 replace ae := ae.ai dC
 have uu := ae.apart e14
 replace kF := dC.af (bD.af (aX.au (U9.au (U8.af kF) Np) Bl))
 have KN : b1_23 ≠ b14 := by have := aj kF; omega
 replace ah := dC.af ah
 have wR : b1 ≠ b14 := by have := aj ah; omega
 replace gm := dC.af (bD.af (aX.au (U9.au (U8.af gm) WS) pX))
 have Tc : D5 ≠ b14 := by have := aj gm; omega
 replace iF := dC.af (bD.af iF)
 have Td : l5 ≠ b14 := by have := aj iF; omega
 replace lI := dC.af lI
 have Tf : b8 ≠ b14 := by have := aj lI; omega
 replace hF := ((((hF.go0 U8).go1 U9 Fa).go1 aX xE).go0 bD).go0 dC
 have pM : w.heap.size ≤ b14 := by have := hF.size; omega
 refine Z.t 5 ((Gs.cv (Gs.bH (Gs.rM cw ((Gs.dm cw).take k)) xk)).toArray) (by (simp [Value.cells, Value.oneCell', Gs.cv, Gs.fv, Gs.ie, Gs.pe, Gs.oe, Gs.cu, Gs.fe, Gs.eY, Gs.ce, Gs.dZ, Gs.re]; done)) dW (fun ut dW _ bT => ?_)
 refine Z.f 0 ?_
 refine Z.l dW ?_
 refine aA (EM hgw) (fun w16 bU => ?_)
 refine Z.f 0 ?_
 replace dW := bU.af dW
 refine Z.s dW (fun vW dW _ di => ?_)
 replace ah := di.au (bU.af (bT.au (bZ.af ah) wR)) wR
 refine Z.l ah ?_
 refine Z.f 0 ?_
 replace lI := di.au (bU.af (bT.au (bZ.af lI) Tf)) Tf
 refine Z.l lI ?_
 refine Z.b 5 _ dW ?_
 replace ae := (((ae.ai bZ).aF bT uu).ai bU).aF di uu
 replace ag := di.au (bU.af (bT.au (bZ.af ag) wQ)) wQ
 refine aI (jZ ag ae (hnw.trans hol) (i := (xk : Int)) (x := Gs.AB false (Gs.bH (Gs.rM cw ((Gs.dm cw).take k)) xk))) (fun v18 xY D18 => ?_)
 obtain ⟨rfl, N18, dR⟩ := D18
 have aN := ae
 replace ag := dR.get ag (fun h => Own.aT aN ag (by decide) _ h rfl)
 replace ae := N18
 replace kF := di.au (bU.af (bT.au (bZ.af kF) KN)) KN
 replace kF := dR.get kF (fun h => Rk _ h rfl)
 replace ah := dR.get ah (fun h => gZ _ h rfl)
 replace gm := di.au (bU.af (bT.au (bZ.af gm) Tc)) Tc
 replace gm := dR.get gm (fun h => Nb _ h rfl)
 replace iF := di.au (bU.af (bT.au (bZ.af iF) Td)) Td
 replace iF := dR.get iF (fun h => lX _ h rfl)
 replace hF := (((hF.go0 bZ).go1 bT pM).go0 bU).go1 di pM
 replace hF := hF.go dR (fun i h hs => .inl hs)
 clear aN
 refine uO iF (fun Ag iF _ eU => ?_)
 replace ae := ae.aF eU lX
 replace ag := eU.au ag qH
 replace kF := eU.au kF Bl
 replace ah := eU.au ah tY
 replace gm := eU.au gm pX
 replace hF := hF.go1 eU xE
 exact ⟨ag, (by rw [Gs.VN hx]; have hpr := Gs.VQ hx; unfold Gs.uo; (rw [if_neg (fun hq => by have := of_decide_eq_true hq; omega)]; exact ae)), kF, ah, gm, iF, hF⟩
 exact ⟨ag, ae, kF, ah, gm, iF, hF⟩
 rintro e wE5 ⟨hv, hI | hI⟩
 obtain ⟨ag, ae, kF, ah, gm, iF, hF⟩ := hI
 refine ⟨hv, .inl ⟨iF, fun xM _ dF => ?_⟩⟩
 refine hJ4 _ _ ?_
 replace ae := ae.aF dF lX
 replace ag := dF.au ag qH
 replace ah := dF.au ah tY
 replace gm := dF.au gm pX
 replace hF := hF.go1 dF xE
 exact ⟨_, (by rfl), Ic, gm, ag, (by rw [show Gs.dm (Gs.rM cw (List.take 0 (Gs.dm cw))) = Gs.dm cw from rfl, List.take_of_length_le (Nat.le_refl _)] at ae; exact ae), ah, hF⟩
 exact hI.elim
 obtain ⟨D5, g1000000, Ic, gm, ag, ae, ah, hF⟩ := hI
 rw [g1000000]
 refine dV (S := no) (fun Cj dH => ?_)
 replace ah := dH.af ah
 refine Z.m ah ?_
 refine Z.m ah ?_
 replace ae := ae.ai dH
 replace ag := dH.af ag
 refine gQ (fun w' hw' => by have ag := hw'.af ag; have ae := ae.ai hw'; exact JZ ag ae (hnw.trans (Gs.yV cw _)) hN hb (Gs.LM hwl.1 _)) ?_
 have hhb := Gs.LJ (cs := (Gs.rM cw (Gs.dm cw))) (by have := Gs.yV cw (Gs.dm cw); omega)
 have hol := Gs.yV cw (Gs.dm cw)
 refine aJ (fun Jl jD => ?_)
 replace ae := ae.ai jD
 replace ag := jD.af ag
 refine aI (vw ag ae (hnw.trans (Gs.yV cw _)) (i := Gs.um (Gs.rM cw (Gs.dm cw)))) (fun v24 UN D24 => ?_)
 obtain ⟨rfl, N24, kD⟩ := D24
 replace gm := jD.af (dH.af gm)
 replace hF := (hF.go0 dH).go0 jD
 replace ae := ae.aF kD (Own.aT ae (by assumption) (by decide))
 replace gm := kD.au gm (by omega)
 replace ag := N24
 replace hF := hF.go kD (fun i _ h => .inr h)
 rw [if_pos (by omega)] at ag
 refine aJ (fun JC iq => ?_)
 replace gm := iq.af gm
 refine leave1 gm (fun MV _ iw => ?_)
 replace ae := ae.ai iq
 replace ag := iq.af ag
 replace hF := hF.go0 iq
 replace ae := ae.aF iw (Own.lV ae (by assumption))
 replace ag := iw.au ag (by omega)
 subst hcwd
 replace hF := hF.go1 iw Ic
 exact ⟨_, rfl, _, rfl, ag, ae, hF⟩
theorem Cb {s : Gs.gV} {pv : Option Addr} {bs : Nat} {w : World} (ax : Z.h w bs #[Z.i s.r0, Z.i s.c0, Z.i s.r1, Z.i s.c1, Z.i s.wh, .pointer pv] 89) (hz0 : Gs.aY s.r0 s.c0 ≠ 0) (hz1 : Gs.aY s.r1 s.c1 ≠ 0) :
    oX 82 #[Z.p bs, Z.i 0] w fun e w' => ∃ v, e = .returned v ∧ ∃ bp g, Z.h w' bs #[Z.i (Gs.bP s 0).r0, Z.i (Gs.bP s 0).c0, Z.i (Gs.bP s 0).r1, Z.i (Gs.bP s 0).c1, Z.i (Gs.bP s 0).wh, Z.p bp] 89 ∧ w.heap.size ≤ bp ∧ Z.h w' bp #[Z.i (Gs.bP s 0).r, Z.i (Gs.bP s 0).c, .slice (some ⟨g, 0, none⟩) (Gs.bP s 0).cs.length (Gs.bP s 0).cs.length, Z.i (Gs.bP s 0).cur] 91 ∧ Own w.heap.size w' 37 5 (.slice (some ⟨g, 0, none⟩) (Gs.bP s 0).cs.length (Gs.bP s 0).cs.length) (rows Gs.cv (Gs.bP s 0).cs) ∧ aB (· = bs) w w' := by
 refine SE.calls ?_
 unfold SE
 have hF : aB (· = bs) w w := Fr.refl _ _ _
 refine dB ?_
 refine Z.f 4 ?_
 refine Z.s ax (fun w1 ax _ U1 => ?_)
 replace hF := hF.go U1 (fun i _ h => h)
 refine dB ?_
 refine Z.f 0 ?_
 refine ak (IJ (n := 2) (m := 2) (by kernel_rfl) (by decide) (by decide)) ?_
 refine Z.b 2 _ ax ?_
 refine aI (wZ (r := s.r0) (c := s.c0) hz0) (fun v3 w3 D3 => ?_)
 obtain ⟨bp, g, rfl, gbp, ag, ae, U3⟩ := D3
 rw [← Gs.AC s.r0 s.c0] at ag ae
 rw [show List.replicate (Gs.FT s.r0 s.c0).length Gs.zc = Gs.FT s.r0 s.c0 by rw [Gs.AC]; rfl] at ae
 have uV : bs ≠ bp := by have := aj ax; omega
 have qB : w.heap.size ≤ bp := by have := hF.size; omega
 replace ae := ae.mono (B' := w.heap.size) hF.size
 refine Z.e ?_
 refine Z.e ?_
 refine dB ?_
 refine Z.f 5 ?_
 replace ax := U3.af ax
 refine Z.s ax (fun w4 ax _ U4 => ?_)
 replace ae := ae.aF U4 (Own.aT ae (by assumption) (by decide))
 replace hF := hF.go0 U3
 replace hF := hF.go U4 (fun i _ h => h)
 replace ag := U4.au ag (Ne.symm uV)
 exact ⟨_, rfl, bp, g, ax, qB, ag, ae, hF⟩
theorem Js {s : Gs.gV} {pv : Option Addr} {bs : Nat} {w : World} (ax : Z.h w bs #[Z.i s.r0, Z.i s.c0, Z.i s.r1, Z.i s.c1, Z.i s.wh, .pointer pv] 89) (hz0 : Gs.aY s.r0 s.c0 ≠ 0) (hz1 : Gs.aY s.r1 s.c1 ≠ 0) :
    oX 82 #[Z.p bs, Z.i 1] w fun e w' => ∃ v, e = .returned v ∧ ∃ bp g, Z.h w' bs #[Z.i (Gs.bP s 1).r0, Z.i (Gs.bP s 1).c0, Z.i (Gs.bP s 1).r1, Z.i (Gs.bP s 1).c1, Z.i (Gs.bP s 1).wh, Z.p bp] 89 ∧ w.heap.size ≤ bp ∧ Z.h w' bp #[Z.i (Gs.bP s 1).r, Z.i (Gs.bP s 1).c, .slice (some ⟨g, 0, none⟩) (Gs.bP s 1).cs.length (Gs.bP s 1).cs.length, Z.i (Gs.bP s 1).cur] 91 ∧ Own w.heap.size w' 37 5 (.slice (some ⟨g, 0, none⟩) (Gs.bP s 1).cs.length (Gs.bP s 1).cs.length) (rows Gs.cv (Gs.bP s 1).cs) ∧ aB (· = bs) w w' := by
 refine SE.calls ?_
 unfold SE
 have hF : aB (· = bs) w w := Fr.refl _ _ _
 refine dB ?_
 refine Z.f 4 ?_
 refine Z.s ax (fun w1 ax _ U1 => ?_)
 replace hF := hF.go U1 (fun i _ h => h)
 refine dB ?_
 refine Z.f 0 ?_
 refine ak (IJ (n := 2) (m := 2) (by kernel_rfl) (by decide) (by decide)) ?_
 refine Z.b 2 (#[Z.i s.r1, Z.i s.c1]) ax ?_
 refine aI (wZ (r := s.r1) (c := s.c1) hz1) (fun v3 w3 D3 => ?_)
 obtain ⟨bp, g, rfl, gbp, ag, ae, U3⟩ := D3
 rw [← Gs.AC s.r1 s.c1] at ag ae
 rw [show List.replicate (Gs.FT s.r1 s.c1).length Gs.zc = Gs.FT s.r1 s.c1 by rw [Gs.AC]; rfl] at ae
 have uV : bs ≠ bp := by have := aj ax; omega
 have qB : w.heap.size ≤ bp := by have := hF.size; omega
 replace ae := ae.mono (B' := w.heap.size) hF.size
 refine Z.e ?_
 refine Z.e ?_
 refine dB ?_
 refine Z.f 5 ?_
 replace ax := U3.af ax
 refine Z.s ax (fun w4 ax _ U4 => ?_)
 replace ae := ae.aF U4 (Own.aT ae (by assumption) (by decide))
 replace hF := hF.go0 U3
 replace hF := hF.go U4 (fun i _ h => h)
 replace ag := U4.au ag (Ne.symm uV)
 exact ⟨_, rfl, bp, g, ax, qB, ag, ae, hF⟩
theorem WU {s : Gs.gV} {pv : Option Addr} {bs : Nat} {w : World} (ax : Z.h w bs #[Z.i s.r0, Z.i s.c0, Z.i s.r1, Z.i s.c1, Z.i s.wh, .pointer pv] 89) (hz0 : Gs.aY s.r0 s.c0 ≠ 0) (hz1 : Gs.aY s.r1 s.c1 ≠ 0) {j : Int} (hj : j = 0 ∨ j = 1) :
    oX 82 #[Z.p bs, Z.i j] w (fun e w' => ∃ v, e = .returned v ∧ ∃ bp g, Z.h w' bs #[Z.i (Gs.bP s j).r0, Z.i (Gs.bP s j).c0, Z.i (Gs.bP s j).r1, Z.i (Gs.bP s j).c1, Z.i (Gs.bP s j).wh, Z.p bp] 89 ∧ w.heap.size ≤ bp ∧ Z.h w' bp #[Z.i (Gs.bP s j).r, Z.i (Gs.bP s j).c, .slice (some ⟨g, 0, none⟩) (Gs.bP s j).cs.length (Gs.bP s j).cs.length, Z.i (Gs.bP s j).cur] 91 ∧ Own w.heap.size w' 37 5 (.slice (some ⟨g, 0, none⟩) (Gs.bP s j).cs.length (Gs.bP s j).cs.length) (rows Gs.cv (Gs.bP s j).cs) ∧ aB (· = bs) w w') := by
 rcases hj with rfl | rfl
 exact Cb ax hz0 hz1
 exact Js ax hz0 hz1
abbrev Zj (s' : Gs.gV) (res : Gs.wu) (A : Option Addr) (n cp bp bs B0 : Nat) (w : World) : Ending → World → Prop := fun e w' => ∃ v, e = .returned v ∧ v = .agg (Gs.re res).toArray ∧ ∃ (bp' : Nat) (A' : Option Addr) (n' cp' : Nat), Z.h w' bs #[Z.i s'.r0, Z.i s'.c0, Z.i s'.r1, Z.i s'.c1, Z.i s'.wh, Z.p bp'] 89 ∧ Z.h w' bp' #[Z.i s'.r, Z.i s'.c, .slice A' n' cp', Z.i s'.cur] 91 ∧ Own B0 w' 37 5 (.slice A' n' cp') (rows Gs.cv s'.cs) ∧ n' = s'.cs.length ∧ (bp' = bp ∨ w.heap.size ≤ bp') ∧ (∀ k, aG (.slice A' n' cp') k → aG (.slice A n cp) k ∨ w.heap.size ≤ k) ∧ aB (fun k => (aG (.slice A n cp) k ∨ k = bp) ∨ k = bs) w w'
set_option maxHeartbeats 1000000 in
theorem FV {s : Gs.gV} {A : Option Addr} {n cp bp bs B0 : Nat} {w : World} (ax : Z.h w bs #[Z.i s.r0, Z.i s.c0, Z.i s.r1, Z.i s.c1, Z.i s.wh, Z.p bp] 89) (ag : Z.h w bp #[Z.i s.r, Z.i s.c, .slice A n cp, Z.i s.cur] 91) (ae : Own B0 w 37 5 (.slice A n cp) (rows Gs.cv s.cs)) (hS : Gs.Sw n s) {x : Gs.qj} {fA : Option Addr} {fn fc : Nat} (gW : Gs.iE w [⟨0, 0, x⟩]) (hwx : Gs.CG x) (hlx : Gs.GU x.os ∧ x.os.length ≤ 100000) (nax1 : [(⟨0, 0, x⟩ : Gs.Fd)] = [] ∨ ∀ k, Gs.lF [⟨0, 0, x⟩] k → ¬ aG (.slice A n cp) k) (nax2 : [(⟨0, 0, x⟩ : Gs.Fd)] = [] ∨ ∀ k, Gs.lF [⟨0, 0, x⟩] k → k ≠ bp) (nax3 : [(⟨0, 0, x⟩ : Gs.Fd)] = [] ∨ ∀ k, Gs.lF [⟨0, 0, x⟩] k → k ≠ bs) {i : Int} (hi : 0 ≤ i ∧ i < n) :
    oX 108 #[Z.p bs, .agg (Gs.ce x fA fn fc).toArray, Z.i i] w fun e w' => ∃ v, e = .returned v ∧ v = .agg (Gs.re (Gs.qM s x.m i).2).toArray ∧ Z.h w' bp #[Z.i (Gs.qM s x.m i).1.r, Z.i (Gs.qM s x.m i).1.c, .slice A n cp, Z.i (Gs.qM s x.m i).1.cur] 91 ∧ Own B0 w' 37 5 (.slice A n cp) (rows Gs.cv (Gs.qM s x.m i).1.cs) ∧ aB (fun k => aG (.slice A n cp) k ∨ k = bp) w w' := by
 refine abh.calls ?_
 unfold abh
 have hW := hS.2
 obtain ⟨hn, hcw, hcu, hp, hN, hb⟩ := id hW
 have hF : aB (fun k => aG (.slice A n cp) k ∨ k = bp) w w := Fr.refl _ _ _
 refine Z.x ((Gs.ce x fA fn fc).toArray) (fun b1 w1 e1 ah _ U1 => ?_)
 have jJ : bp ≠ b1 := by have := aj ag; omega
 refine Z.n ((Gs.re Gs.qw).toArray) (fun b2 w2 e2 ay _ U2 => ?_)
 replace ag := U1.af ag
 have fF : bp ≠ b2 := by have := aj ag; omega
 replace ae := ae.ai U1
 have dN := ae.apart e2
 replace hF := hF.go0 U1
 have fD : w.heap.size ≤ b2 := by have := hF.size; omega
 refine dV (S := (fun k => aG (.slice A n cp) k ∨ k = bp)) (fun w3 U3 => ?_)
 refine fM ?_
 refine Z.g 5 ?_
 replace ax := U3.af (U2.af (U1.af ax))
 refine bI (fun w' hw' => by have ax := (Fr.jq hw').af ax; exact (kH (by kernel_rfl) ax (by rfl))) ?_
 refine Z.g 2 ?_
 replace ah := U3.af (U2.af ah)
 refine bI (fun w' hw' => by have ah := (Fr.jq hw').af ah; exact (kH (by kernel_rfl) ah (by rfl))) ?_
 refine aJ (fun w4 U4 => ?_)
 refine jy ?_
 replace gW := (((gW.ai U1).ai U2).ai U3).ai U4
 replace ae := ((ae.ai U2).ai U3).ai U4
 replace ag := U4.af (U3.af (U2.af ag))
 refine aI (Ul ag ae hW gW.c.1 rfl hlx.2 gW.c.2 hwx.2.2 hlx.1 (Gs.amq nax1) (Gs.amq nax2) (Gs.amr nax1) (Gs.amr nax2) hi) (fun v5 w5 D5 => ?_)
 have aN := ae
 replace hF := ((hF.go0 U2).go0 U3).go0 U4
 have qF5 := hF.size
 obtain ⟨at18, dn18, rfl, ag, ae, U5⟩ := D5
 replace ax := U4.af ax
 replace ax := U5.get ax (fun hs => by rcases hs with hs | hs <;> first | (first | exact Own.aT aN ax (by decide) _ hs rfl | (have := Own.ge aN hs; omega)) | (exact absurd hs (by exact dQ (by assumption) (by assumption) (by decide))))
 replace gW := gW.dO U5 (nax1.elim .inl fun h0 => nax2.elim .inl fun h1 => .inr fun k hk hs => by rcases hs with hs | hs <;> first | exact h0 k hk hs | exact h1 k hk hs)
 replace ah := U4.af ah
 replace ah := U5.get ah (fun hs => by rcases hs with hs | hs <;> first | (first | exact Own.aT aN ah (by decide) _ hs rfl | (have := Own.ge aN hs; omega)) | (exact absurd hs (Ne.symm jJ)))
 replace ay := U4.af (U3.af ay)
 replace ay := U5.get ay (fun hs => by rcases hs with hs | hs <;> first | (first | exact Own.aT aN ay (by decide) _ hs rfl | (have := Own.ge aN hs; omega)) | (exact absurd hs (Ne.symm fF)))
 replace hF := hF.go U5 (fun i hi hs => by exact hs)
 clear aN
 refine ⟨U5, ?_⟩
 refine bI (fun w' hw' => (ET (by rfl))) ?_
 refine bI (fun w' hw' => (ET (by rfl))) ?_
 refine bI (fun w' hw' => (ET (by rfl))) ?_
 refine aJ (fun w6 U6 => ?_)
 refine bQ (fun g w' => (g 9 = Z.i (if (Gs.jW x.m.os (Gs.DW s i)).2 = 0 then x.e else (Gs.jW x.m.os (Gs.DW s i)).2)) ∧ (Z.h w' bs #[Z.i s.r0, Z.i s.c0, Z.i s.r1, Z.i s.c1, Z.i s.wh, Z.p bp] 89) ∧ (Z.h w' bp #[Z.i (Gs.qM s x.m i).1.r, Z.i (Gs.qM s x.m i).1.c, .slice A n cp, Z.i (Gs.qM s x.m i).1.cur] 91) ∧ (Own B0 w' 37 5 (.slice A n cp) (rows Gs.cv (Gs.qM s x.m i).1.cs)) ∧ (Gs.iE w' [⟨0, 0, x⟩]) ∧ (Z.h w' b1 ((Gs.ce x fA fn fc).toArray) 124) ∧ (Z.h w' b2 ((Gs.re Gs.qw).toArray) 66) ∧ (aB (fun k => aG (.slice A n cp) k ∨ k = bp) w w')) (fun J1 hJ1 => ?_) (fun gJ1 jY hI => ?_)
 refine az (dh _ _ _ _ _) (fun h7 => ?_) (fun h7 => ?_)
 refine aK ?_
 refine Z.f 3 ?_
 replace ah := U6.af ah
 refine Z.l ah ?_
 refine hJ1 _ _ ?_
 replace gW := gW.ai U6
 replace ae := ae.ai U6
 replace ax := U6.af ax
 replace ay := U6.af ay
 replace ag := U6.af ag
 replace hF := hF.go0 U6
 exact ⟨(congrArg (Value.int .i64) (by exact (if_pos (by assumption)).symm)), ax, ag, ae, gW, ah, ay, hF⟩
 refine aH ?_
 refine hJ1 _ _ ?_
 replace gW := gW.ai U6
 replace ae := ae.ai U6
 replace ax := U6.af ax
 replace ah := U6.af ah
 replace ay := U6.af ay
 replace ag := U6.af ag
 replace hF := hF.go0 U6
 exact ⟨(congrArg (Value.int .i64) (by exact (if_neg (by assumption)).symm)), ax, ag, ae, gW, ah, ay, hF⟩
 replace gW := gW.ai U6
 replace ae := ae.ai U6
 replace ax := U6.af ax
 replace ah := U6.af ah
 replace ay := U6.af ay
 replace ag := U6.af ag
 replace hF := hF.go0 U6
 obtain ⟨g9, ax, ag, ae, gW, ah, ay, hF⟩ := hI
 rw [g9]
 refine az (jO _ _ _ _ _) (fun h8 => ?_) (fun h8 => ?_)
 refine aK ?_
 refine ak (bF (l := [(0, 1), (1, 1), (2, 1), (3, 1)]) (z := #[Z.u 0, .bool false, .bool false, Z.i 0]) (cs := Gs.re (Gs.yh (if (Gs.jW x.m.os (Gs.DW s i)).2 = 0 then x.e else (Gs.jW x.m.os (Gs.DW s i)).2))) (by kernel_rfl) (by rfl)) ?_
 refine Z.t 4 ((Gs.re (Gs.yh (if (Gs.jW x.m.os (Gs.DW s i)).2 = 0 then x.e else (Gs.jW x.m.os (Gs.DW s i)).2))).toArray) (by (simp [Value.cells, Value.oneCell', Gs.cv, Gs.fv, Gs.ie, Gs.pe, Gs.oe, Gs.cu, Gs.fe, Gs.eY, Gs.ce, Gs.dZ, Gs.re]; done)) ay (fun w10 ay _ aX => ?_)
 refine Z.a 4 ay ?_
 replace ae := ae.aF aX dN
 replace ag := aX.au ag fF
 replace hF := hF.go1 aX fD
 exact ⟨_, rfl, (congrArg (fun q => Value.agg (Gs.re q).toArray) (Gs.ams (c := x.m) (by assumption)).symm), ag, ae, hF⟩
 refine aH ?_
 refine dV (S := no) (fun w12 bW => ?_)
 refine Z.g 1 ?_
 replace ah := bW.af ah
 refine Z.m ah ?_
 refine gQ (fun w' hw' => Ub hwx.2.1) ?_
 refine Z.g 1 ?_
 refine Z.m ah ?_
 refine gQ (fun w' hw' => XX hwx.2.1) ?_
 refine bI (fun w' hw' => (bF (l := [(0, 1), (1, 1), (2, 1), (3, 1)]) (z := #[Z.u 0, .bool false, .bool false, Z.i 0]) (cs := Gs.re ⟨0, decide (x.w / 2 % 2 = 1), decide (x.w / 4 % 2 = 1), 0⟩) (by kernel_rfl) (by rfl))) ?_
 refine aJ (fun w16 bU => ?_)
 replace ay := bU.af (bW.af ay)
 refine Z.t 4 ((Gs.re ⟨0, decide (x.w / 2 % 2 = 1), decide (x.w / 4 % 2 = 1), 0⟩).toArray) (by (simp [Value.cells, Value.oneCell', Gs.cv, Gs.fv, Gs.ie, Gs.pe, Gs.oe, Gs.cu, Gs.fe, Gs.eY, Gs.ce, Gs.dZ, Gs.re]; done)) ay (fun vW ay _ di => ?_)
 refine aJ (fun xY dR => ?_)
 replace ay := dR.af ay
 refine Z.a 4 ay ?_
 replace ae := (((ae.ai bW).ai bU).aF di dN).ai dR
 replace ag := dR.af (di.au (bU.af (bW.af ag)) fF)
 replace hF := (((hF.go0 bW).go0 bU).go1 di fD).go0 dR
 exact ⟨_, rfl, (congrArg (fun q => Value.agg (Gs.re q).toArray) (Gs.amu (c := x.m) (Classical.not_not.1 (by assumption))).symm), ag, ae, hF⟩
theorem WV {n0 : Nat} {s : Gs.gV} {pv : Option Addr} {bs : Nat} {w : World} (ax : Z.h w bs #[Z.i s.r0, Z.i s.c0, Z.i s.r1, Z.i s.c1, Z.i s.wh, .pointer pv] 89) (hS : Gs.Sw n0 s) {x : Gs.qj} {fA : Option Addr} {fn fc : Nat} (gW : Gs.iE w [⟨0, 0, x⟩]) (hwx : Gs.CG x) (hlx : Gs.GU x.os ∧ x.os.length ≤ 100000) (nax3 : [(⟨0, 0, x⟩ : Gs.Fd)] = [] ∨ ∀ k, Gs.lF [⟨0, 0, x⟩] k → k ≠ bs) :
    oX 109 #[Z.p bs, .agg (Gs.ce x fA fn fc).toArray, Z.i 0] w fun e w' => ∃ v, e = .returned v ∧ v = .agg (Gs.re (Gs.iT s x.m 0).2).toArray ∧ ∃ bp g, Z.h w' bs #[Z.i (Gs.iT s x.m 0).1.r0, Z.i (Gs.iT s x.m 0).1.c0, Z.i (Gs.iT s x.m 0).1.r1, Z.i (Gs.iT s x.m 0).1.c1, Z.i (Gs.iT s x.m 0).1.wh, Z.p bp] 89 ∧ w.heap.size ≤ bp ∧ Z.h w' bp #[Z.i (Gs.iT s x.m 0).1.r, Z.i (Gs.iT s x.m 0).1.c, .slice (some ⟨g, 0, none⟩) (Gs.iT s x.m 0).1.cs.length (Gs.iT s x.m 0).1.cs.length, Z.i (Gs.iT s x.m 0).1.cur] 91 ∧ Own w.heap.size w' 37 5 (.slice (some ⟨g, 0, none⟩) (Gs.iT s x.m 0).1.cs.length (Gs.iT s x.m 0).1.cs.length) (rows Gs.cv (Gs.iT s x.m 0).1.cs) ∧ aB (· = bs) w w' := by
 refine QY.calls ?_
 unfold QY
 have Zk := aj ax
 have amv := gW.lt
 have hF : aB (· = bs) w w := Fr.refl _ _ _
 refine Z.x ((Gs.ce x fA fn fc).toArray) (fun b1 w1 e1 ah _ U1 => ?_)
 have xh : bs ≠ b1 := by have := aj ax; omega
 have aed := gW.apart e1
 have bY : w.heap.size ≤ b1 := by have := hF.size; omega
 refine Z.n ((Gs.re Gs.qw).toArray) (fun b2 w2 e2 ay _ U2 => ?_)
 replace ax := U1.af ax
 have jk : bs ≠ b2 := by have := aj ax; omega
 replace gW := gW.ai U1
 have aee := gW.apart e2
 have mf : b1 ≠ b2 := by have := aj ah; omega
 replace hF := hF.go0 U1
 have fD : w.heap.size ≤ b2 := by have := hF.size; omega
 replace ax := U2.af ax
 refine aI (Cb ax hS.1.1 hS.1.2) (fun v3 w3 D3 => ?_)
 obtain ⟨bp, g, N3, gbp, ag, ae, U3⟩ := D3
 have hS1 := hS.renew 0
 have hp1 := hS1.2.2.2.2.1
 have hc1 : (Gs.bP s 0).cur = 0 := by unfold Gs.bP; split <;> rfl
 have uV : bs ≠ bp := by have := aj ax; omega
 replace gW := gW.ai U2
 have aef := (gW.lt).ne (b := bp) (by omega)
 replace ah := U2.af ah
 have AY : b1 ≠ bp := by have := aj ah; omega
 have Ei : b2 ≠ bp := by have := aj ay; omega
 replace hF := hF.go0 U2
 have qB : w.heap.size ≤ bp := by have := hF.size; omega
 have Rl : ¬ aG _ bs := fun h => by have := (Own.ge ae h).1; have := aj ax; omega
 have Um : _ ∨ ∀ k, _ → ¬ aG _ k := (gW.lt).imp_right fun h k hk hs => by have := h k hk; have := (Own.ge ae hs).1; omega
 have Rn : ¬ aG _ b1 := fun h => by have := (Own.ge ae h).1; have := aj ah; omega
 have Ro : ¬ aG _ b2 := fun h => by have := (Own.ge ae h).1; have := aj ay; omega
 replace ae := ae.mono (B' := w.heap.size) hF.size
 replace ax := N3
 replace hF := hF.go U3 (fun i _ h => h)
 replace ah := U3.au ah (Ne.symm xh)
 refine Z.b 5 ((Gs.ce x fA fn fc).toArray) ah ?_
 replace gW := gW.aF U3 nax3
 replace ay := U3.au ay (Ne.symm jk)
 refine aI (FV (s := (Gs.bP s 0)) ax ag ae hS1 gW hwx hlx (by assumption) (by assumption) nax3 (i := 0) ⟨by decide, by omega⟩) (fun v4 w4 D4 => ?_)
 have aN := ae
 have qF4 := hF.size
 obtain ⟨rfl, ag, ae, U4⟩ := D4
 replace ax := U4.get ax (fun hs => by rcases hs with hs | hs <;> first | (first | exact Own.aT aN ax (by decide) _ hs rfl | (have := Own.ge aN hs; omega)) | (exact absurd hs uV))
 replace ay := U4.get ay (fun hs => by rcases hs with hs | hs <;> first | (first | exact Own.aT aN ay (by decide) _ hs rfl | (have := Own.ge aN hs; omega)) | (exact absurd hs Ei))
 replace hF := hF.go U4 (fun i hi hs => by (rcases hs with hs | hs <;> first | (subst hs; omega) | (have := (Own.ge aN hs).1; omega)))
 clear aN
 refine Z.t 4 ((Gs.re (Gs.iT s x.m 0).2).toArray) (by (simp [Value.cells, Value.oneCell', Gs.cv, Gs.fv, Gs.ie, Gs.pe, Gs.oe, Gs.cu, Gs.fe, Gs.eY, Gs.ce, Gs.dZ, Gs.re]; done)) ay (fun w5 ay _ U5 => ?_)
 replace ae := ae.aF U5 (Own.aT ae (by assumption) (by decide))
 refine Z.a 4 ay ?_
 replace ag := U5.au ag (Ne.symm Ei)
 rw [(hS.erase (c := x.m) (Gs.uk.of hwx.2.2) 0).2.1] at ag ae
 replace ax := U5.au ax jk
 replace hF := hF.go1 U5 fD
 exact ⟨_, rfl, rfl, bp, g, ax, qB, ag, ae, hF⟩
theorem WW {n0 : Nat} {s : Gs.gV} {pv : Option Addr} {bs : Nat} {w : World} (ax : Z.h w bs #[Z.i s.r0, Z.i s.c0, Z.i s.r1, Z.i s.c1, Z.i s.wh, .pointer pv] 89) (hS : Gs.Sw n0 s) {x : Gs.qj} {fA : Option Addr} {fn fc : Nat} (gW : Gs.iE w [⟨0, 0, x⟩]) (hwx : Gs.CG x) (hlx : Gs.GU x.os ∧ x.os.length ≤ 100000) (nax3 : [(⟨0, 0, x⟩ : Gs.Fd)] = [] ∨ ∀ k, Gs.lF [⟨0, 0, x⟩] k → k ≠ bs) :
    oX 109 #[Z.p bs, .agg (Gs.ce x fA fn fc).toArray, Z.i 1] w fun e w' => ∃ v, e = .returned v ∧ v = .agg (Gs.re (Gs.iT s x.m 1).2).toArray ∧ ∃ bp g, Z.h w' bs #[Z.i (Gs.iT s x.m 1).1.r0, Z.i (Gs.iT s x.m 1).1.c0, Z.i (Gs.iT s x.m 1).1.r1, Z.i (Gs.iT s x.m 1).1.c1, Z.i (Gs.iT s x.m 1).1.wh, Z.p bp] 89 ∧ w.heap.size ≤ bp ∧ Z.h w' bp #[Z.i (Gs.iT s x.m 1).1.r, Z.i (Gs.iT s x.m 1).1.c, .slice (some ⟨g, 0, none⟩) (Gs.iT s x.m 1).1.cs.length (Gs.iT s x.m 1).1.cs.length, Z.i (Gs.iT s x.m 1).1.cur] 91 ∧ Own w.heap.size w' 37 5 (.slice (some ⟨g, 0, none⟩) (Gs.iT s x.m 1).1.cs.length (Gs.iT s x.m 1).1.cs.length) (rows Gs.cv (Gs.iT s x.m 1).1.cs) ∧ aB (· = bs) w w' := by
 refine QY.calls ?_
 unfold QY
 have Zk := aj ax
 have amv := gW.lt
 have hF : aB (· = bs) w w := Fr.refl _ _ _
 refine Z.x ((Gs.ce x fA fn fc).toArray) (fun b1 w1 e1 ah _ U1 => ?_)
 have xh : bs ≠ b1 := by have := aj ax; omega
 have aed := gW.apart e1
 have bY : w.heap.size ≤ b1 := by have := hF.size; omega
 refine Z.n ((Gs.re Gs.qw).toArray) (fun b2 w2 e2 ay _ U2 => ?_)
 replace ax := U1.af ax
 have jk : bs ≠ b2 := by have := aj ax; omega
 replace gW := gW.ai U1
 have aee := gW.apart e2
 have mf : b1 ≠ b2 := by have := aj ah; omega
 replace hF := hF.go0 U1
 have fD : w.heap.size ≤ b2 := by have := hF.size; omega
 replace ax := U2.af ax
 refine aI (Js ax hS.1.1 hS.1.2) (fun v3 w3 D3 => ?_)
 obtain ⟨bp, g, N3, gbp, ag, ae, U3⟩ := D3
 have hS1 := hS.renew 1
 have hp1 := hS1.2.2.2.2.1
 have hc1 : (Gs.bP s 1).cur = 0 := by unfold Gs.bP; split <;> rfl
 have uV : bs ≠ bp := by have := aj ax; omega
 replace gW := gW.ai U2
 have aef := (gW.lt).ne (b := bp) (by omega)
 replace ah := U2.af ah
 have AY : b1 ≠ bp := by have := aj ah; omega
 have Ei : b2 ≠ bp := by have := aj ay; omega
 replace hF := hF.go0 U2
 have qB : w.heap.size ≤ bp := by have := hF.size; omega
 have Rl : ¬ aG _ bs := fun h => by have := (Own.ge ae h).1; have := aj ax; omega
 have Um : _ ∨ ∀ k, _ → ¬ aG _ k := (gW.lt).imp_right fun h k hk hs => by have := h k hk; have := (Own.ge ae hs).1; omega
 have Rn : ¬ aG _ b1 := fun h => by have := (Own.ge ae h).1; have := aj ah; omega
 have Ro : ¬ aG _ b2 := fun h => by have := (Own.ge ae h).1; have := aj ay; omega
 replace ae := ae.mono (B' := w.heap.size) hF.size
 replace ax := N3
 replace hF := hF.go U3 (fun i _ h => h)
 replace ah := U3.au ah (Ne.symm xh)
 refine Z.b 5 ((Gs.ce x fA fn fc).toArray) ah ?_
 replace gW := gW.aF U3 nax3
 replace ay := U3.au ay (Ne.symm jk)
 refine aI (FV (s := (Gs.bP s 1)) ax ag ae hS1 gW hwx hlx (by assumption) (by assumption) nax3 (i := 0) ⟨by decide, by omega⟩) (fun v4 w4 D4 => ?_)
 have aN := ae
 have qF4 := hF.size
 obtain ⟨rfl, ag, ae, U4⟩ := D4
 replace ax := U4.get ax (fun hs => by rcases hs with hs | hs <;> first | (first | exact Own.aT aN ax (by decide) _ hs rfl | (have := Own.ge aN hs; omega)) | (exact absurd hs uV))
 replace ay := U4.get ay (fun hs => by rcases hs with hs | hs <;> first | (first | exact Own.aT aN ay (by decide) _ hs rfl | (have := Own.ge aN hs; omega)) | (exact absurd hs Ei))
 replace hF := hF.go U4 (fun i hi hs => by (rcases hs with hs | hs <;> first | (subst hs; omega) | (have := (Own.ge aN hs).1; omega)))
 clear aN
 refine Z.t 4 ((Gs.re (Gs.iT s x.m 1).2).toArray) (by (simp [Value.cells, Value.oneCell', Gs.cv, Gs.fv, Gs.ie, Gs.pe, Gs.oe, Gs.cu, Gs.fe, Gs.eY, Gs.ce, Gs.dZ, Gs.re]; done)) ay (fun w5 ay _ U5 => ?_)
 replace ae := ae.aF U5 (Own.aT ae (by assumption) (by decide))
 refine Z.a 4 ay ?_
 replace ag := U5.au ag (Ne.symm Ei)
 rw [(hS.erase (c := x.m) (Gs.uk.of hwx.2.2) 1).2.1] at ag ae
 replace ax := U5.au ax jk
 replace hF := hF.go1 U5 fD
 exact ⟨_, rfl, rfl, bp, g, ax, qB, ag, ae, hF⟩
theorem ach {x : Int} {w : World} (hx : 0 ≤ x ∧ x ≤ 255) :
    oX 172 #[Z.u x] w fun e w' => e = .returned (Z.i (if x = 0 then 0 else 1)) ∧ aB no w w' := by
 refine abw.calls ?_
 unfold abw
 have hF : aB no w w := Fr.refl _ _ _
 refine az (dh _ _ _ _ _) (fun h1 => ?_) (fun h1 => ?_)
 refine aK ?_
 rw [if_pos (by assumption)]; exact ⟨rfl, hF⟩
 refine aH ?_
 rw [if_neg (by assumption)]; exact ⟨rfl, hF⟩
set_option maxHeartbeats 2000000 in
theorem Ti {s : Gs.gV} {A : Option Addr} {n cp bp bs B0 : Nat} {w : World} (ax : Z.h w bs #[Z.i s.r0, Z.i s.c0, Z.i s.r1, Z.i s.c1, Z.i s.wh, Z.p bp] 89) (ag : Z.h w bp #[Z.i s.r, Z.i s.c, .slice A n cp, Z.i s.cur] 91) (ae : Own B0 w 37 5 (.slice A n cp) (rows Gs.cv s.cs)) (hS : Gs.Sw n s) (hB0 : B0 ≤ w.heap.size) {x : Gs.qj} {fA : Option Addr} {fn fc : Nat} (gW : Gs.iE w [⟨0, 0, x⟩]) (hwx : Gs.CG x) (hlx : Gs.GU x.os ∧ x.os.length ≤ 100000) (nax1 : [(⟨0, 0, x⟩ : Gs.Fd)] = [] ∨ ∀ k, Gs.lF [⟨0, 0, x⟩] k → ¬ aG (.slice A n cp) k) (nax2 : [(⟨0, 0, x⟩ : Gs.Fd)] = [] ∨ ∀ k, Gs.lF [⟨0, 0, x⟩] k → k ≠ bp) (nax3 : [(⟨0, 0, x⟩ : Gs.Fd)] = [] ∨ ∀ k, Gs.lF [⟨0, 0, x⟩] k → k ≠ bs) (hk243 : ¬ x.k = 243) :
    oX 65 #[Z.p bs, .agg (Gs.ce x fA fn fc).toArray] w (Zj (Gs.pq s x.m).1 (Gs.pq s x.m).2 A n cp bp bs B0 w) := by
 refine YX.calls ?_
 unfold YX
 have hW := hS.2
 obtain ⟨hn, hcw, hcu, hp, hN, hb⟩ := id hW
 have hF : aB (fun k => (aG (.slice A n cp) k ∨ k = bp) ∨ k = bs) w w := Fr.refl _ _ _
 refine Z.x ((Gs.ce x fA fn fc).toArray) (fun b1 w1 e1 ah _ U1 => ?_)
 have gZ := ae.apart e1
 refine Z.n ((Gs.re Gs.qw).toArray) (fun b2 w2 e2 ay _ U2 => ?_)
 replace ax := U1.af ax
 have jk : bs ≠ b2 := by have := aj ax; omega
 replace ag := U1.af ag
 have fF : bp ≠ b2 := by have := aj ag; omega
 replace ae := ae.ai U1
 have dN := ae.apart e2
 replace hF := hF.go0 U1
 have fD : w.heap.size ≤ b2 := by have := hF.size; omega
 refine Z.f 0 ?_
 replace ah := U2.af ah
 refine Z.l ah ?_
 refine az (dh _ _ _ _ _) (fun h3 => ?_) (fun h3 => ?_)
 refine aK ?_
 refine bQ (fun g w' => (Z.h w' bs #[Z.i s.r0, Z.i s.c0, Z.i s.r1, Z.i s.c1, Z.i s.wh, Z.p bp] 89) ∧ (Z.h w' bp #[Z.i s.r, Z.i s.c, .slice A n cp, Z.i s.cur] 91) ∧ (Own B0 w' 37 5 (.slice A n cp) (rows Gs.cv (Gs.BZ s x.w).cs)) ∧ (Gs.iE w' [⟨0, 0, x⟩]) ∧ (Z.h w' b1 ((Gs.ce x fA fn fc).toArray) 124) ∧ (Z.h w' b2 ((Gs.re Gs.qw).toArray) 66) ∧ (aB (fun k => (aG (.slice A n cp) k ∨ k = bp) ∨ k = bs) w w')) (fun J1 hJ1 => ?_) (fun gJ1 jY hI => ?_)
 refine Z.f 1 ?_
 refine Z.l ah ?_
 refine eF (XY hwx.2.1) (fun w4 U4 h4 => ?_) (fun w4 U4 h4 => ?_)
 simp only [Z.d, Z.c] at h4
 refine aK ?_
 refine dB ?_
 refine Z.f 5 ?_
 replace ax := U4.af (U2.af ax)
 refine Z.l ax ?_
 replace ae := (ae.ai U2).ai U4
 replace ag := U4.af (U2.af ag)
 refine aI (QZ ag ae hn hN hb hcw) (fun v5 w5 D5 => ?_)
 obtain ⟨rfl, N5, U5⟩ := D5
 have aN := ae
 replace ax := U5.get ax (fun h => Own.aT aN ax (by decide) _ h rfl)
 replace ag := U5.get ag (fun h => Own.aT aN ag (by decide) _ h rfl)
 replace ae := N5
 replace gW := ((gW.ai U1).ai U2).ai U4
 replace gW := gW.dO U5 nax1
 replace ah := U4.af ah
 replace ah := U5.get ah (fun h => gZ _ h rfl)
 replace ay := U4.af ay
 replace ay := U5.get ay (fun h => dN _ h rfl)
 replace hF := (hF.go0 U2).go0 U4
 replace hF := hF.go U5 (fun i h hs => .inl (.inl hs))
 clear aN
 refine hJ1 _ _ ?_
 exact ⟨ax, ag, (by unfold Gs.BZ; dsimp only; (rw [if_pos (by assumption)]; exact ae)), gW, ah, ay, hF⟩
 simp only [Z.d, Z.c] at h4
 refine aH ?_
 refine hJ1 _ _ ?_
 replace gW := ((gW.ai U1).ai U2).ai U4
 replace ae := (ae.ai U2).ai U4
 replace ax := U4.af (U2.af ax)
 replace ag := U4.af (U2.af ag)
 replace hF := (hF.go0 U2).go0 U4
 replace ah := U4.af ah
 replace ay := U4.af ay
 exact ⟨ax, ag, (by unfold Gs.BZ; dsimp only; (rw [if_neg (by assumption)]; exact ae)), gW, ah, ay, hF⟩
 replace gW := (gW.ai U1).ai U2
 replace ae := ae.ai U2
 replace ax := U2.af ax
 replace ag := U2.af ag
 replace hF := hF.go0 U2
 obtain ⟨ax, ag, ae, gW, ah, ay, hF⟩ := hI
 refine dV (S := no) (fun w6 U6 => ?_)
 replace ah := U6.af ah
 refine bI (fun w' hw' => by have ah := hw'.af ah; exact (CE (n := 5) (cs' := (Gs.ce x fA fn fc).toArray) (by kernel_rfl) ah (Nat.le_of_ble_eq_true rfl) (by rfl))) ?_
 refine fM ?_
 refine Z.g 5 ?_
 replace ax := U6.af ax
 refine Z.m ax ?_
 replace ae := ae.ai U6
 replace ag := U6.af ag
 refine gQ (fun w' hw' => by have ag := hw'.af ag; have ae := ae.ai hw'; exact ed ag ae (hS.Zl x.w).2.1) ?_
 refine aJ (fun w8 U8 => ?_)
 replace gW := (gW.ai U6).ai U8
 replace ae := ae.ai U8
 replace ax := U8.af ax
 replace ag := U8.af ag
 refine aI (FV (s := Gs.BZ s x.w) ax ag ae (hS.Zl x.w) gW hwx hlx nax1 nax2 nax3 (i := s.cur) hcu) (fun v9 w9 D9 => ?_)
 have aN := ae
 replace hF := (hF.go0 U6).go0 U8
 have qF9 := hF.size
 obtain ⟨rfl, ag, ae, U9⟩ := D9
 replace ax := U9.get ax (fun hs => by rcases hs with hs | hs <;> first | (first | exact Own.aT aN ax (by decide) _ hs rfl | (have := Own.ge aN hs; omega)) | (exact absurd hs (by exact dQ (by assumption) (by assumption) (by decide))))
 replace ay := U8.af (U6.af ay)
 replace ay := U9.get ay (fun hs => by rcases hs with hs | hs <;> first | (first | exact Own.aT aN ay (by decide) _ hs rfl | (have := Own.ge aN hs; omega)) | (exact absurd hs (Ne.symm fF)))
 replace hF := hF.go U9 (fun i hi hs => .inl hs)
 clear aN
 refine aJ (fun w10 aX => ?_)
 replace ay := aX.af ay
 refine Z.t 4 ((Gs.re (Gs.qM (Gs.BZ s x.w) x.m s.cur).2).toArray) (by (simp [Value.cells, Value.oneCell', Gs.cv, Gs.fv, Gs.ie, Gs.pe, Gs.oe, Gs.cu, Gs.fe, Gs.eY, Gs.ce, Gs.dZ, Gs.re]; done)) ay (fun nT ay _ bD => ?_)
 refine aJ (fun w12 bW => ?_)
 replace ay := bW.af ay
 refine Z.a 4 ay ?_
 replace ae := ((ae.ai aX).aF bD dN).ai bW
 replace ax := bW.af (bD.au (aX.af ax) jk)
 replace ag := bW.af (bD.au (aX.af ag) fF)
 replace hF := ((hF.go0 aX).go1 bD fD).go0 bW
 rw [Gs.aov (c := x.m) (by assumption)]; exact ⟨_, rfl, rfl, bp, A, n, cp, ax, ag, ae, ((hS.Zl x.w).write (Gs.uk.of hwx.2.2) hcu).2.1, .inl rfl, (fun k hk => .inl hk), hF⟩
 refine aH ?_
 refine az (dh _ _ _ _ _) (fun h14 => ?_) (fun h14 => ?_)
 refine aK ?_
 refine Z.b 5 ((Gs.ce x fA fn fc).toArray) ah ?_
 replace gW := (gW.ai U1).ai U2
 replace ax := U2.af ax
 refine aI (WV ax hS gW hwx hlx nax3) (fun v15 ut D15 => ?_)
 obtain ⟨rfl, bp2, g2, N15, gbp2, nR, fQ, bT⟩ := D15
 have BM : b2 ≠ bp2 := by have := aj ay; omega
 replace hF := hF.go0 U2
 have BN : w.heap.size ≤ bp2 := by have := hF.size; omega
 replace fQ := fQ.mono (B' := w.heap.size) hF.size
 replace ax := N15
 replace hF := hF.go bT (fun i _ h => .inr h)
 replace ay := bT.au ay (Ne.symm jk)
 refine Z.t 4 ((Gs.re (Gs.iT s x.m 0).2).toArray) (by (simp [Value.cells, Value.oneCell', Gs.cv, Gs.fv, Gs.ie, Gs.pe, Gs.oe, Gs.cu, Gs.fe, Gs.eY, Gs.ce, Gs.dZ, Gs.re]; done)) ay (fun w16 ay _ bU => ?_)
 replace fQ := fQ.aF bU (Own.aT fQ (by assumption) (by decide))
 refine Z.a 4 ay ?_
 replace ax := bU.au ax jk
 replace nR := bU.au nR (Ne.symm BM)
 replace hF := hF.go1 bU fD
 rw [Gs.aow (c := x.m) (by assumption)]; exact ⟨_, rfl, rfl, bp2, some ⟨g2, 0, none⟩, _, _, ax, nR, fQ.mono hB0, rfl, .inr BN, (fun k hk => .inr (Own.ge fQ hk).1), hF⟩
 refine aH ?_
 refine az (dh _ _ _ _ _) (fun h18 => ?_) (fun h18 => ?_)
 refine aK ?_
 refine Z.b 5 ((Gs.ce x fA fn fc).toArray) ah ?_
 replace gW := (gW.ai U1).ai U2
 replace ax := U2.af ax
 refine aI (WW ax hS gW hwx hlx nax3) (fun v19 Ag D19 => ?_)
 obtain ⟨rfl, bp2, g2, N19, gbp2, nR, fQ, eU⟩ := D19
 have BM : b2 ≠ bp2 := by have := aj ay; omega
 replace hF := hF.go0 U2
 have BN : w.heap.size ≤ bp2 := by have := hF.size; omega
 replace fQ := fQ.mono (B' := w.heap.size) hF.size
 replace ax := N19
 replace hF := hF.go eU (fun i _ h => .inr h)
 replace ay := eU.au ay (Ne.symm jk)
 refine Z.t 4 ((Gs.re (Gs.iT s x.m 1).2).toArray) (by (simp [Value.cells, Value.oneCell', Gs.cv, Gs.fv, Gs.ie, Gs.pe, Gs.oe, Gs.cu, Gs.fe, Gs.eY, Gs.ce, Gs.dZ, Gs.re]; done)) ay (fun xM ay _ dF => ?_)
 replace fQ := fQ.aF dF (Own.aT fQ (by assumption) (by decide))
 refine Z.a 4 ay ?_
 replace ax := dF.au ax jk
 replace nR := dF.au nR (Ne.symm BM)
 replace hF := hF.go1 dF fD
 rw [Gs.aox (c := x.m) (by assumption)]; exact ⟨_, rfl, rfl, bp2, some ⟨g2, 0, none⟩, _, _, ax, nR, fQ.mono hB0, rfl, .inr BN, (fun k hk => .inr (Own.ge fQ hk).1), hF⟩
 refine aH ?_
 refine az (dh _ _ _ _ _) (fun h22 => ?_) (fun h22 => ?_)
 refine aK ?_
 refine dB ?_
 refine Z.f 5 ?_
 replace ax := U2.af ax
 refine Z.l ax ?_
 replace ae := ae.ai U2
 replace ag := U2.af ag
 refine aI (Kt ag ae hW) (fun v23 Jl D23 => ?_)
 obtain ⟨q41, rfl, M23, N23, jD⟩ := D23
 have aN := ae
 replace ae := N23
 replace ax := jD.get ax (fun hs => Or.elim (show aG _ _ ∨ _ = _ from hs) (fun h => Own.aT aN ax (by decide) _ h rfl) (fun hb => absurd hb (by exact dQ (by assumption) (by assumption) (by decide))))
 replace ay := jD.get ay (fun hs => Or.elim (show aG _ _ ∨ _ = _ from hs) (fun h => dN _ h rfl) (fun hb => absurd hb (Ne.symm fF)))
 replace ag := M23
 replace hF := hF.go0 U2
 replace hF := hF.go jD (fun i h hs => Or.elim (show aG _ _ ∨ _ = _ from hs) (fun hs => .inl (.inl hs)) (fun hb => by (subst hb; omega)))
 clear aN
 refine ak (bF (l := [(0, 1), (1, 1), (2, 1), (3, 1)]) (z := #[Z.u 0, .bool false, .bool false, Z.i 0]) (cs := Gs.re ⟨0, true, false, 0⟩) (by kernel_rfl) (by rfl)) ?_
 refine Z.t 4 ((Gs.re ⟨0, true, false, 0⟩).toArray) (by (simp [Value.cells, Value.oneCell', Gs.cv, Gs.fv, Gs.ie, Gs.pe, Gs.oe, Gs.cu, Gs.fe, Gs.eY, Gs.ce, Gs.dZ, Gs.re]; done)) ay (fun JC ay _ iq => ?_)
 refine Z.a 4 ay ?_
 replace ae := ae.aF iq dN
 replace ax := iq.au ax jk
 replace ag := iq.au ag fF
 replace hF := hF.go1 iq fD
 rw [Gs.aoy (c := x.m) (by assumption)]; exact ⟨_, rfl, rfl, bp, A, n, cp, ax, ag, ae, hn.trans (Gs.KH _).symm, .inl rfl, (fun k hk => .inl hk), hF⟩
 refine aH ?_
 refine bQ (fun g w' => (g 43 = .bool (decide (x.k = 242 ∨ x.k = 246 ∨ x.k = 110))) ∧ (Z.h w' bs #[Z.i s.r0, Z.i s.c0, Z.i s.r1, Z.i s.c1, Z.i s.wh, Z.p bp] 89) ∧ (Z.h w' bp #[Z.i s.r, Z.i s.c, .slice A n cp, Z.i s.cur] 91) ∧ (Own B0 w' 37 5 (.slice A n cp) (rows Gs.cv s.cs)) ∧ (Gs.iE w' [⟨0, 0, x⟩]) ∧ (Z.h w' b1 ((Gs.ce x fA fn fc).toArray) 124) ∧ (Z.h w' b2 ((Gs.re Gs.qw).toArray) 66) ∧ (aB (fun k => (aG (.slice A n cp) k ∨ k = bp) ∨ k = bs) w w')) (fun J2 hJ2 => ?_) (fun gJ2 Vb hI => ?_)
 refine az (dh _ _ _ _ _) (fun h27 => ?_) (fun h27 => ?_)
 refine aK ?_
 refine hJ2 _ _ ?_
 replace gW := (gW.ai U1).ai U2
 replace ae := ae.ai U2
 replace ax := U2.af ax
 replace ag := U2.af ag
 replace hF := hF.go0 U2
 exact ⟨(by exact congrArg Value.bool (decide_eq_true (by omega)).symm), ax, ag, ae, gW, ah, ay, hF⟩
 refine aH ?_
 refine az (dh _ _ _ _ _) (fun h28 => ?_) (fun h28 => ?_)
 refine aK ?_
 refine hJ2 _ _ ?_
 replace gW := (gW.ai U1).ai U2
 replace ae := ae.ai U2
 replace ax := U2.af ax
 replace ag := U2.af ag
 replace hF := hF.go0 U2
 exact ⟨(by exact congrArg Value.bool (decide_eq_true (by omega)).symm), ax, ag, ae, gW, ah, ay, hF⟩
 refine aH ?_
 refine az (dh _ _ _ _ _) (fun h29 => ?_) (fun h29 => ?_)
 refine hJ2 _ _ ?_
 replace gW := (gW.ai U1).ai U2
 replace ae := ae.ai U2
 replace ax := U2.af ax
 replace ag := U2.af ag
 replace hF := hF.go0 U2
 exact ⟨(by exact congrArg Value.bool (decide_eq_true (by omega)).symm), ax, ag, ae, gW, ah, ay, hF⟩
 refine hJ2 _ _ ?_
 replace gW := (gW.ai U1).ai U2
 replace ae := ae.ai U2
 replace ax := U2.af ax
 replace ag := U2.af ag
 replace hF := hF.go0 U2
 exact ⟨(by exact congrArg Value.bool (decide_eq_false (by omega)).symm), ax, ag, ae, gW, ah, ay, hF⟩
 replace gW := (gW.ai U1).ai U2
 replace ae := ae.ai U2
 replace ax := U2.af ax
 replace ag := U2.af ag
 replace hF := hF.go0 U2
 obtain ⟨g43, ax, ag, ae, gW, ah, ay, hF⟩ := hI
 rw [g43]
 refine kL (fun h30 => ?_) (fun h30 => ?_)
 simp only [Z.d, Z.c] at h30
 refine Z.f 0 ?_
 refine Z.l ah ?_
 refine ak (bF (l := [(0, 1), (1, 1), (2, 1), (3, 1)]) (z := #[Z.u 0, .bool false, .bool false, Z.i 0]) (cs := Gs.re ⟨x.k, false, false, 0⟩) (by kernel_rfl) (by rfl)) ?_
 refine Z.t 4 ((Gs.re ⟨x.k, false, false, 0⟩).toArray) (by (simp [Value.cells, Value.oneCell', Gs.cv, Gs.fv, Gs.ie, Gs.pe, Gs.oe, Gs.cu, Gs.fe, Gs.eY, Gs.ce, Gs.dZ, Gs.re]; done)) ay (fun w32 ay _ mO => ?_)
 refine Z.a 4 ay ?_
 replace ae := ae.aF mO dN
 replace ax := mO.au ax jk
 replace ag := mO.au ag fF
 replace hF := hF.go1 mO fD
 rw [Gs.aoz (c := x.m) (by assumption)]; exact ⟨_, rfl, rfl, bp, A, n, cp, ax, ag, ae, hn, .inl rfl, (fun k hk => .inl hk), hF⟩
 simp only [Z.d, Z.c] at h30
 refine jQ (dh _ _ _ _ _) (hk243) ?_
 refine aH ?_
 refine ak (bF (l := [(0, 1), (1, 1), (2, 1), (3, 1)]) (z := #[Z.u 0, .bool false, .bool false, Z.i 0]) (cs := Gs.re (Gs.yh 30)) (by kernel_rfl) (by rfl)) ?_
 refine Z.t 4 ((Gs.re (Gs.yh 30)).toArray) (by (simp [Value.cells, Value.oneCell', Gs.cv, Gs.fv, Gs.ie, Gs.pe, Gs.oe, Gs.cu, Gs.fe, Gs.eY, Gs.ce, Gs.dZ, Gs.re]; done)) ay (fun w35 ay _ qA => ?_)
 refine Z.a 4 ay ?_
 replace ae := ae.aF qA dN
 replace ax := qA.au ax jk
 replace ag := qA.au ag fF
 replace hF := hF.go1 qA fD
 rw [Gs.aoA (c := x.m) (by show ¬ (x.k = 241 ∨ x.k = 245 ∨ x.k = 126 ∨ x.k = 111 ∨ x.k = 242 ∨ x.k = 246 ∨ x.k = 110); omega)]; exact ⟨_, rfl, rfl, bp, A, n, cp, ax, ag, ae, hn, .inl rfl, (fun k hk => .inl hk), hF⟩
set_option maxHeartbeats 1000000 in
theorem Yl {s : Gs.gV} {A : Option Addr} {n cp bp bs B0 : Nat} {w : World} (ax : Z.h w bs #[Z.i s.r0, Z.i s.c0, Z.i s.r1, Z.i s.c1, Z.i s.wh, Z.p bp] 89) (ag : Z.h w bp #[Z.i s.r, Z.i s.c, .slice A n cp, Z.i s.cur] 91) (ae : Own B0 w 37 5 (.slice A n cp) (rows Gs.cv s.cs)) (hS : Gs.Sw n s) (hB0 : B0 ≤ w.heap.size) {f : Gs.Fd} (gW : Gs.iE w [f]) (hwf : (0 ≤ f.id ∧ f.id ≤ 255) ∧ (0 ≤ f.op ∧ f.op ≤ 255) ∧ Gs.CG f.c) (hlx : Gs.GU f.c.os ∧ f.c.os.length ≤ 100000) (hin : f.id = 1 ∨ f.id = 3 ∨ Gs.uq f.c.k) (nax1 : [(f : Gs.Fd)] = [] ∨ ∀ k, Gs.lF [f] k → ¬ aG (.slice A n cp) k) (nax2 : [(f : Gs.Fd)] = [] ∨ ∀ k, Gs.lF [f] k → k ≠ bp) (nax3 : [(f : Gs.Fd)] = [] ∨ ∀ k, Gs.lF [f] k → k ≠ bs)  :
    oX 153 #[Z.p bs, .agg (Gs.fe f).toArray] w (Zj (Gs.fP s f.m).1 (Gs.fP s f.m).2 A n cp bp bs B0 w) := by
 refine abm.calls ?_
 unfold abm
 have hW := hS.2
 obtain ⟨hn, hcw, hcu, hp, hN, hb⟩ := id hW
 have hF : aB (fun k => (aG (.slice A n cp) k ∨ k = bp) ∨ k = bs) w w := Fr.refl _ _ _
 refine Z.x ((Gs.fe f).toArray) (fun b1 w1 e1 ah _ U1 => ?_)
 refine Z.n ((Gs.re Gs.qw).toArray) (fun b2 w2 e2 ay _ U2 => ?_)
 replace ax := U1.af ax
 have jk : bs ≠ b2 := by have := aj ax; omega
 replace ag := U1.af ag
 have fF : bp ≠ b2 := by have := aj ag; omega
 replace ae := ae.ai U1
 have dN := ae.apart e2
 replace hF := hF.go0 U1
 have fD : w.heap.size ≤ b2 := by have := hF.size; omega
 refine Z.f 0 ?_
 replace ah := U2.af ah
 refine Z.l ah ?_
 refine az (dh _ _ _ _ _) (fun h3 => ?_) (fun h3 => ?_)
 refine aK ?_
 refine Z.f 1 ?_
 refine Z.l ah ?_
 refine ak (bF (l := [(0, 1), (1, 1), (2, 1), (3, 1)]) (z := #[Z.u 0, .bool false, .bool false, Z.i 0]) (cs := Gs.re ⟨f.op, false, false, 0⟩) (by kernel_rfl) (by rfl)) ?_
 refine Z.t 4 ((Gs.re ⟨f.op, false, false, 0⟩).toArray) (by (simp [Value.cells, Value.oneCell', Gs.cv, Gs.fv, Gs.ie, Gs.pe, Gs.oe, Gs.cu, Gs.fe, Gs.eY, Gs.ce, Gs.dZ, Gs.re]; done)) ay (fun w5 ay _ U5 => ?_)
 refine Z.a 4 ay ?_
 replace ae := (ae.ai U2).aF U5 dN
 replace ax := U5.au (U2.af ax) jk
 replace ag := U5.au (U2.af ag) fF
 replace hF := (hF.go0 U2).go1 U5 fD
 rw [Gs.ajX (f := f.m) (by assumption)]; exact ⟨_, rfl, rfl, bp, A, n, cp, ax, ag, ae, hn, .inl rfl, (fun k hk => .inl hk), hF⟩
 refine aH ?_
 refine az (dh _ _ _ _ _) (fun h7 => ?_) (fun h7 => ?_)
 refine aK ?_
 refine Z.f 1 ?_
 refine Z.l ah ?_
 refine aA (ach hwf.2.1) (fun w8 U8 => ?_)
 replace ax := U8.af (U2.af ax)
 refine aI (WU ax hS.1.1 hS.1.2 (j := if f.op = 0 then 0 else 1) (by split <;> simp)) (fun v9 w9 D9 => ?_)
 obtain ⟨bp2, g2, N9, gbp2, nR, fQ, U9⟩ := D9
 replace ay := U8.af ay
 have BM : b2 ≠ bp2 := by have := aj ay; omega
 replace hF := (hF.go0 U2).go0 U8
 have BN : w.heap.size ≤ bp2 := by have := hF.size; omega
 replace fQ := fQ.mono (B' := w.heap.size) hF.size
 replace ax := N9
 replace hF := hF.go U9 (fun i _ h => .inr h)
 refine ak (bF (l := [(0, 1), (1, 1), (2, 1), (3, 1)]) (z := #[Z.u 0, .bool false, .bool false, Z.i 0]) (cs := Gs.re Gs.qw) (by kernel_rfl) (by rfl)) ?_
 replace ay := U9.au ay (Ne.symm jk)
 refine Z.t 4 ((Gs.re Gs.qw).toArray) (by (simp [Value.cells, Value.oneCell', Gs.cv, Gs.fv, Gs.ie, Gs.pe, Gs.oe, Gs.cu, Gs.fe, Gs.eY, Gs.ce, Gs.dZ, Gs.re]; done)) ay (fun nT ay _ bD => ?_)
 replace fQ := fQ.aF bD (Own.aT fQ (by assumption) (by decide))
 refine Z.a 4 ay ?_
 replace ax := bD.au ax jk
 replace nR := bD.au nR (Ne.symm BM)
 replace hF := hF.go1 bD fD
 rw [Gs.ajY (f := f.m) (by assumption)]; exact ⟨_, rfl, rfl, bp2, some ⟨g2, 0, none⟩, _, _, ax, nR, fQ.mono hB0, rfl, .inr BN, (fun k hk => .inr (Own.ge fQ hk).1), hF⟩
 refine aH ?_
 refine Z.f 2 ?_
 refine Z.b 5 ((Gs.ce f.c none 0 0).toArray) ah ?_
 replace gW := (gW.ai U1).ai U2
 replace ae := ae.ai U2
 replace ax := U2.af ax
 replace ag := U2.af ag
 replace hF := hF.go0 U2
 refine aI (Ti ax ag ae hS (by have := hF.size; omega) (Gs.iE.YK gW rfl) hwf.2.2 hlx (Gs.aci (x := f) rfl nax1) (Gs.aci (x := f) rfl nax2) (Gs.aci (x := f) rfl nax3) (fun h => hin.elim (by assumption) (fun h2 => h2.elim (by assumption) (fun h3 => by unfold Gs.uq Gs.pU at h3; omega)))) (fun v13 ve D13 => ?_)
 have aN := ae
 have qF13 := hF.size
 have qF24 := hF.size
 obtain ⟨rfl, bp24, A24, n24, cp24, ax, GV, AZ, hn24, hb24, ho24, dC⟩ := D13
 replace ay := dC.get ay (fun hs => by rcases hs with (hs | hs) | hs <;> first | (first | exact Own.aT aN ay (by decide) _ hs rfl | (have := Own.ge aN hs; omega)) | (exact absurd hs (Ne.symm fF)) | (exact absurd hs (Ne.symm jk)))
 replace hF := hF.go dC (fun i hi hs => by exact hs)
 clear aN
 refine Z.n ((Gs.re Gs.qw).toArray) (fun b14 rF e14 dW _ bZ => ?_)
 have wS : b2 ≠ b14 := by have := aj ay; omega
 have uH : bs ≠ b14 := by have := aj ax; omega
 have Nq : bp24 ≠ b14 := by have := aj GV; omega
 have GX := AZ.apart e14
 have pM : w.heap.size ≤ b14 := by have := hF.size; omega
 refine Z.t 4 ((Gs.re (Gs.pq s f.c.m).2).toArray) (by (simp [Value.cells, Value.oneCell', Gs.cv, Gs.fv, Gs.ie, Gs.pe, Gs.oe, Gs.cu, Gs.fe, Gs.eY, Gs.ce, Gs.dZ, Gs.re]; done)) dW (fun ut dW _ bT => ?_)
 refine Z.f 0 ?_
 refine Z.s dW (fun w16 dW _ bU => ?_)
 refine Z.b 4 _ dW ?_
 replace ay := bU.au (bT.au (bZ.af ay) wS) wS
 refine iD (n := 4) (by kernel_rfl) (by rfl) (by (simp [Value.cells, Value.oneCell', Gs.cv, Gs.fv, Gs.ie, Gs.pe, Gs.oe, Gs.cu, Gs.fe, Gs.eY, Gs.ce, Gs.dZ, Gs.re]; done)) ay (Nat.le_of_ble_eq_true rfl) (by (simp; rfl)) (fun vW ay _ di => ?_)
 replace AZ := ((AZ.ai bZ).aF bT GX).aF bU GX
 replace AZ := AZ.aF di (Own.aT AZ (by assumption) (by decide))
 replace GV := bU.au (bT.au (bZ.af GV) Nq) Nq
 replace GV := di.au GV (by exact dQ (by assumption) (by assumption) (by decide))
 refine Z.a 4 ay ?_
 replace ax := di.au (bU.au (bT.au (bZ.af ax) uH) uH) jk
 replace hF := (((hF.go0 bZ).go1 bT pM).go1 bU pM).go1 di fD
 rw [Gs.ajZ (f := f.m) (by assumption) (by assumption)]; exact ⟨_, rfl, rfl, bp24, A24, n24, cp24, ax, GV, AZ, hn24, hb24.imp id (fun h => by omega), (fun k hk => (ho24 k hk).imp id (fun h => by omega)), hF⟩
set_option maxHeartbeats 2000000 in
theorem WX {s : Gs.gV} {A : Option Addr} {n cp bp bs B0 : Nat} {w : World} (ax : Z.h w bs #[Z.i s.r0, Z.i s.c0, Z.i s.r1, Z.i s.c1, Z.i s.wh, Z.p bp] 89) (ag : Z.h w bp #[Z.i s.r, Z.i s.c, .slice A n cp, Z.i s.cur] 91) (ae : Own B0 w 37 5 (.slice A n cp) (rows Gs.cv s.cs)) (hS : Gs.Sw n s) (hB0 : B0 ≤ w.heap.size) {x : Gs.qj} {fs : List Gs.Fd} {fA : Option Addr} {fc : Nat} (kX : Rd w fA (rows Gs.fe fs)) (iU : Gs.iE w fs) (hfw : Gs.DF fs) (hfl : Gs.Zm fs) (hfn : fs.length ≤ 100000) (nf1 : rows Gs.fe fs = [] ∨ ∀ k, fC fA k → ¬ aG (.slice A n cp) k) (nf2 : rows Gs.fe fs = [] ∨ ∀ k, fC fA k → k ≠ bp) (nf3 : rows Gs.fe fs = [] ∨ ∀ k, fC fA k → k ≠ bs) (ng1 : fs = [] ∨ ∀ k, Gs.lF fs k → ¬ aG (.slice A n cp) k) (ng2 : fs = [] ∨ ∀ k, Gs.lF fs k → k ≠ bp) (ng3 : fs = [] ∨ ∀ k, Gs.lF fs k → k ≠ bs)  :
    oX 110 #[Z.p bs, .agg (Gs.ce x fA fs.length fc).toArray] w (Zj (Gs.kU x.e (Gs.rX fs) s Gs.qw).1 (Gs.kU x.e (Gs.rX fs) s Gs.qw).2 A n cp bp bs B0 w) := by
 refine abj.calls ?_
 unfold abj
 have hW := hS.2
 obtain ⟨hn, hcw, hcu, hp, hN, hb⟩ := id hW
 have hfml := Gs.YM fs
 have hF : aB (fun k => (aG (.slice A n cp) k ∨ k = bp) ∨ k = bs) w w := Fr.refl _ _ _
 refine Z.x ((Gs.ce x fA fs.length fc).toArray) (fun b1 w1 e1 ah _ U1 => ?_)
 refine Z.n ((Gs.re Gs.qw).toArray) (fun b2 w2 e2 ay _ U2 => ?_)
 replace ax := U1.af ax
 have jk : bs ≠ b2 := by have := aj ax; omega
 replace hF := hF.go0 U1
 have fD : w.heap.size ≤ b2 := by have := hF.size; omega
 refine Z.n ((Gs.re Gs.qw).toArray) (fun b3 w3 e3 bG _ U3 => ?_)
 replace ax := U2.af ax
 have qJ : bs ≠ b3 := by have := aj ax; omega
 replace kX := (kX.ai U1).ai U2
 have sZ := kX.apart e3
 replace iU := (iU.ai U1).ai U2
 have tq := iU.apart e3
 replace ah := U2.af ah
 have mi : b1 ≠ b3 := by have := aj ah; omega
 have qK : b2 ≠ b3 := by have := aj ay; omega
 replace hF := hF.go0 U2
 have jH : w.heap.size ≤ b3 := by have := hF.size; omega
 refine bQ (fun g w' => ∃ (s1 : Gs.gV) (o1 : Gs.wu) (bp1 : Nat) (A1 : Option Addr) (n1 : Nat) (cp1 : Nat), ((Gs.kU x.e (Gs.rX fs) s Gs.qw) = (s1, if x.e = 0 then o1 else Gs.yh x.e)) ∧ (Gs.Sw n1 s1) ∧ (bp1 = bp ∨ w.heap.size ≤ bp1) ∧ (∀ k, aG (.slice A1 n1 cp1) k → aG (.slice A n cp) k ∨ w.heap.size ≤ k) ∧ (Z.h w' bs #[Z.i s1.r0, Z.i s1.c0, Z.i s1.r1, Z.i s1.c1, Z.i s1.wh, Z.p bp1] 89) ∧ (Z.h w' bp1 #[Z.i s1.r, Z.i s1.c, .slice A1 n1 cp1, Z.i s1.cur] 91) ∧ (Own B0 w' 37 5 (.slice A1 n1 cp1) (rows Gs.cv s1.cs)) ∧ (Z.h w' b3 ((Gs.re o1).toArray) 66) ∧ (Z.h w' b2 ((Gs.re Gs.qw).toArray) 66) ∧ (Z.h w' b1 ((Gs.ce x fA fs.length fc).toArray) 124) ∧ (aB (fun k => (aG (.slice A n cp) k ∨ k = bp) ∨ k = bs) w w')) (fun J1 hJ1 => ?_) (fun gJ1 jY hI => ?_)
 refine Z.f 4 ?_
 replace ah := U3.af ah
 refine Z.l ah ?_
 refine ak (gK (by kernel_rfl) _ _ _) ?_
 refine eG (fun g w' => ∃ (k : Nat) (s1 : Gs.gV) (o1 : Gs.wu) (bp1 : Nat) (A1 : Option Addr) (n1 : Nat) (cp1 : Nat), (g 12 = Z.i (k : Int)) ∧ (k ≤ fs.length) ∧ ((Gs.kU x.e (Gs.rX fs) s Gs.qw) = Gs.kU x.e ((Gs.rX fs).drop k) s1 o1) ∧ (Gs.Sw n1 s1) ∧ (bp1 = bp ∨ w.heap.size ≤ bp1) ∧ (∀ k, aG (.slice A1 n1 cp1) k → aG (.slice A n cp) k ∨ w.heap.size ≤ k) ∧ (rows Gs.fe fs = [] ∨ ∀ k, fC fA k → ¬ aG (.slice A1 n1 cp1) k) ∧ (rows Gs.fe fs = [] ∨ ∀ k, fC fA k → k ≠ bp1) ∧ (fs = [] ∨ ∀ k, Gs.lF fs k → ¬ aG (.slice A1 n1 cp1) k) ∧ (fs = [] ∨ ∀ k, Gs.lF fs k → k ≠ bp1) ∧ (Z.h w' bs #[Z.i s1.r0, Z.i s1.c0, Z.i s1.r1, Z.i s1.c1, Z.i s1.wh, Z.p bp1] 89) ∧ (Z.h w' bp1 #[Z.i s1.r, Z.i s1.c, .slice A1 n1 cp1, Z.i s1.cur] 91) ∧ (Own B0 w' 37 5 (.slice A1 n1 cp1) (rows Gs.cv s1.cs)) ∧ (Z.h w' b3 ((Gs.re o1).toArray) 66) ∧ (Z.h w' b2 ((Gs.re Gs.qw).toArray) 66) ∧ (Z.h w' b1 ((Gs.ce x fA fs.length fc).toArray) 124) ∧ (Rd w' fA (rows Gs.fe fs)) ∧ (Gs.iE w' fs) ∧ (aB (fun k => (aG (.slice A n cp) k ∨ k = bp) ∨ k = bs) w w')) (fun g w' => fs.length - (RowKit.intOf (g 12)).toNat) ?_ (fun g2 qW hI => ?_)
 replace ae := ((ae.ai U1).ai U2).ai U3
 replace ag := U3.af (U2.af (U1.af ag))
 replace kX := kX.ai U3
 replace iU := iU.ai U3
 replace ax := U3.af ax
 replace ay := U3.af ay
 replace hF := hF.go0 U3
 exact ⟨0, s, Gs.qw, bp, A, n, cp, (by rfl), Nat.zero_le _, rfl, hS, (.inl rfl), (fun k hk => .inl hk), nf1, nf2, ng1, ng2, ax, ag, ae, bG, ay, ah, kX, iU, hF⟩
 replace kX := kX.ai U3
 replace iU := iU.ai U3
 replace ax := U3.af ax
 replace ay := U3.af ay
 replace hF := hF.go0 U3
 obtain ⟨k, s1, o1, bp1, A1, n1, cp1, g12, hk, hinv, hS1, hbp, hov, nf1, nf2, ng1, ng2, ax, kV, fE, bG, ay, ah, kX, iU, hF⟩ := hI
 rw [g12]
 refine az (lss _ _ _ _) (fun h4 => ?_) (fun h4 => ?_)
 refine aK ?_
 refine tK Gs.CP (by kernel_rfl) (by kernel_rfl) kX (by rfl) (by omega) (by omega) (fun x5 hx5 => ?_)
 simp only [Int.toNat_natCast] at hx5
 refine Z.n ((Gs.fe Gs.vg).toArray) (fun b6 w6 e6 pg _ U6 => ?_)
 have agk : bs ≠ b6 := by have := aj ax; omega
 have aeg : bp1 ≠ b6 := by have := aj kV; omega
 have WY := fE.apart e6
 have Ov : b3 ≠ b6 := by have := aj bG; omega
 have Ea : b2 ≠ b6 := by have := aj ay; omega
 have Ip : b1 ≠ b6 := by have := aj ah; omega
 have aeh := kX.apart e6
 have JS := iU.apart e6
 have yw : w.heap.size ≤ b6 := by have := hF.size; omega
 refine Z.t 7 ((Gs.fe x5).toArray) (by (simp [Value.cells, Value.oneCell', Gs.cv, Gs.fv, Gs.ie, Gs.pe, Gs.oe, Gs.cu, Gs.fe, Gs.eY, Gs.ce, Gs.dZ, Gs.re]; done)) pg (fun w7 pg _ U7 => ?_)
 refine Z.b 7 ((Gs.fe x5).toArray) pg ?_
 replace fE := (fE.ai U6).aF U7 WY
 replace iU := (iU.ai U6).aF U7 JS
 replace ax := U7.au (U6.af ax) agk
 replace kV := U7.au (U6.af kV) aeg
 replace hF := (hF.go0 U6).go1 U7 yw
 refine aI (Yl ax kV fE hS1 (by have := hF.size; omega) (iU.get hx5) (hfw.get hx5) (hfl.get hx5).1 (hfl.get hx5).2 (Gs.WZ ng1 hx5) (Gs.WZ ng2 hx5) (Gs.WZ ng3 hx5)) (fun v8 w8 D8 => ?_)
 have nV := fE
 have qF8 := hF.size
 have amx := hF.size
 obtain ⟨rfl, bp18, A18, n18, cp18, ax, dY, dw, hn18, hb18, ho18, U8⟩ := D8
 replace kX := (kX.ai U6).aF U7 aeh
 have nf1b := acj (S' := w7) nf1 kX ho18
 have nf2b := Gs.amy nf2 kX.lt hb18
 have ng1b := Gs.UX (S' := w7) ng1 iU ho18
 have ng2b := Gs.aoB ng2 iU hb18
 have hbp2 : bp18 = bp ∨ w.heap.size ≤ bp18 := hb18.elim (fun h => hbp.elim (fun h2 => .inl (h.trans h2)) (fun h2 => .inr (by omega))) (fun h => .inr (by omega))
 have hov2 : ∀ k, aG (.slice A18 n18 cp18) k → aG (.slice A n cp) k ∨ w.heap.size ≤ k := fun k hk => (ho18 k hk).elim (hov k) (fun h => .inr (by omega))
 have hS2 : Gs.Sw n18 (Gs.fP s1 x5.m).1 := hn18 ▸ hS1.field (Gs.uk.of (hfw.get hx5).2.2.2.2)
 replace bG := U7.au (U6.af bG) Ov
 replace bG := U8.get bG (fun hs => by rcases hs with (hs | hs) | hs <;> first | (first | exact Own.aT nV bG (by decide) _ hs rfl | (have := Own.ge nV hs; omega)) | (exact absurd hs (by first | omega | exact dQ (by assumption) (by assumption) (by decide))))
 replace ay := U7.au (U6.af ay) Ea
 replace ay := U8.get ay (fun hs => by rcases hs with (hs | hs) | hs <;> first | (first | exact Own.aT nV ay (by decide) _ hs rfl | (have := Own.ge nV hs; omega)) | (exact absurd hs (by first | omega | exact dQ (by assumption) (by assumption) (by decide))))
 replace ah := U7.au (U6.af ah) Ip
 replace ah := U8.get ah (fun hs => by rcases hs with (hs | hs) | hs <;> first | (first | exact Own.aT nV ah (by decide) _ hs rfl | (have := Own.ge nV hs; omega)) | (exact absurd hs (by first | omega | exact dQ (by assumption) (by assumption) (by decide))))
 replace kX := kX.dO U8 (nf1.elim .inl fun h0 => nf2.elim .inl fun h1 => nf3.elim .inl fun h2 => .inr fun k hk hs => by rcases hs with (hs | hs) | hs <;> first | exact h0 k hk hs | exact h1 k hk hs | exact h2 k hk hs)
 replace iU := iU.dO U8 (ng1.elim .inl fun h0 => ng2.elim .inl fun h1 => ng3.elim .inl fun h2 => .inr fun k hk hs => by rcases hs with (hs | hs) | hs <;> first | exact h0 k hk hs | exact h1 k hk hs | exact h2 k hk hs)
 replace hF := hF.go U8 (fun i hi hs => Or.elim hs (fun hs => Or.elim hs (fun hs => Or.elim (hov i hs) (fun h => .inl (.inl h)) (fun h => absurd hi (by omega))) (fun hs => Or.elim hbp (fun h => .inl (.inr (Eq.trans hs h))) (fun h => absurd hi (by have e : i = bp1 := hs; omega)))) (fun hs => .inr hs))
 clear nV
 refine Z.n ((Gs.re Gs.qw).toArray) (fun b9 w9 e9 jB _ U9 => ?_)
 have Ej : b3 ≠ b9 := by have := aj bG; omega
 have DN : b2 ≠ b9 := by have := aj ay; omega
 have Ox : b1 ≠ b9 := by have := aj ah; omega
 have KO := kX.apart e9
 have BC := iU.apart e9
 have IK : bs ≠ b9 := by have := aj ax; omega
 have Df : bp18 ≠ b9 := by have := aj dY; omega
 have yD := dw.apart e9
 have qO : w.heap.size ≤ b9 := by have := hF.size; omega
 refine Z.t 4 ((Gs.re (Gs.fP s1 x5.m).2).toArray) (by (simp [Value.cells, Value.oneCell', Gs.cv, Gs.fv, Gs.ie, Gs.pe, Gs.oe, Gs.cu, Gs.fe, Gs.eY, Gs.ce, Gs.dZ, Gs.re]; done)) jB (fun w10 jB _ aX => ?_)
 refine Z.f 3 ?_
 refine Z.l jB ?_
 refine az (jO _ _ _ _ _) (fun h11 => ?_) (fun h11 => ?_)
 refine aK ?_
 refine Z.f 3 ?_
 refine Z.l jB ?_
 refine ak (bF (l := [(0, 1), (1, 1), (2, 1), (3, 1)]) (z := #[Z.u 0, .bool false, .bool false, Z.i 0]) (cs := Gs.re (Gs.yh (Gs.fP s1 x5.m).2.er)) (by kernel_rfl) (by rfl)) ?_
 replace ay := aX.au (U9.af ay) DN
 refine Z.t 4 ((Gs.re (Gs.yh (Gs.fP s1 x5.m).2.er)).toArray) (by (simp [Value.cells, Value.oneCell', Gs.cv, Gs.fv, Gs.ie, Gs.pe, Gs.oe, Gs.cu, Gs.fe, Gs.eY, Gs.ce, Gs.dZ, Gs.re]; done)) ay (fun ve ay _ dC => ?_)
 replace dw := (dw.ai U9).aF aX yD
 replace dw := dw.aF dC (Own.aT dw (by assumption) (by decide))
 replace dY := aX.au (U9.af dY) Df
 replace dY := dC.au dY (by exact dQ (by assumption) (by assumption) (by decide))
 refine Z.a 4 ay ?_
 replace ax := dC.au (aX.au (U9.af ax) IK) jk
 replace hF := ((hF.go0 U9).go1 aX qO).go1 dC fD
 rw [Gs.Ym hinv (Gs.GY hx5) (by assumption)]; exact ⟨_, rfl, rfl, bp18, A18, n18, cp18, ax, dY, dw, hS2.2.1, hbp2, hov2, hF⟩
 refine aH ?_
 refine bQ (fun g w' => ((Gs.fP s1 x5.m).2.er = 0) ∧ (Z.h w' bs #[Z.i (Gs.fP s1 x5.m).1.r0, Z.i (Gs.fP s1 x5.m).1.c0, Z.i (Gs.fP s1 x5.m).1.r1, Z.i (Gs.fP s1 x5.m).1.c1, Z.i (Gs.fP s1 x5.m).1.wh, Z.p bp18] 89) ∧ (Z.h w' bp18 #[Z.i (Gs.fP s1 x5.m).1.r, Z.i (Gs.fP s1 x5.m).1.c, .slice A18 n18 cp18, Z.i (Gs.fP s1 x5.m).1.cur] 91) ∧ (Own B0 w' 37 5 (.slice A18 n18 cp18) (rows Gs.cv (Gs.fP s1 x5.m).1.cs)) ∧ (Z.h w' b3 ((Gs.re ⟨if o1.rep = 0 then (Gs.fP s1 x5.m).2.rep else o1.rep, o1.rs, o1.al, o1.er⟩).toArray) 66) ∧ (Z.h w' b9 ((Gs.re (Gs.fP s1 x5.m).2).toArray) 66) ∧ (Z.h w' b2 ((Gs.re Gs.qw).toArray) 66) ∧ (Z.h w' b1 ((Gs.ce x fA fs.length fc).toArray) 124) ∧ (Rd w' fA (rows Gs.fe fs)) ∧ (Gs.iE w' fs) ∧ (aB (fun k => (aG (.slice A n cp) k ∨ k = bp) ∨ k = bs) w w')) (fun J3 hJ3 => ?_) (fun gJ3 KA hI => ?_)
 refine Z.f 0 ?_
 replace bG := aX.au (U9.af bG) Ej
 refine Z.l bG ?_
 refine az (dh _ _ _ _ _) (fun h15 => ?_) (fun h15 => ?_)
 refine aK ?_
 refine Z.f 0 ?_
 refine Z.l jB ?_
 refine Z.f 0 ?_
 refine Z.s bG (fun w16 bG _ bU => ?_)
 replace dw := (dw.ai U9).aF aX yD
 replace dw := dw.aF bU (Own.aT dw (by assumption) (by decide))
 replace dY := aX.au (U9.af dY) Df
 replace dY := bU.au dY (by exact dQ (by assumption) (by assumption) (by decide))
 refine hJ3 _ _ ?_
 replace kX := ((kX.ai U9).aF aX KO).aF bU sZ
 replace iU := ((iU.ai U9).aF aX BC).aF bU tq
 replace ay := bU.au (aX.au (U9.af ay) DN) qK
 replace ah := bU.au (aX.au (U9.af ah) Ox) mi
 replace ax := bU.au (aX.au (U9.af ax) IK) qJ
 replace hF := ((hF.go0 U9).go1 aX qO).go1 bU jH
 replace jB := bU.au jB (Ne.symm Ej)
 exact ⟨(Classical.not_not.1 (by assumption)), ax, dY, dw, (by (rw [if_pos (by assumption)]; exact bG)), jB, ay, ah, kX, iU, hF⟩
 refine aH ?_
 refine hJ3 _ _ ?_
 replace kX := (kX.ai U9).aF aX KO
 replace iU := (iU.ai U9).aF aX BC
 replace dw := (dw.ai U9).aF aX yD
 replace ay := aX.au (U9.af ay) DN
 replace ah := aX.au (U9.af ah) Ox
 replace ax := aX.au (U9.af ax) IK
 replace dY := aX.au (U9.af dY) Df
 replace hF := (hF.go0 U9).go1 aX qO
 exact ⟨(Classical.not_not.1 (by assumption)), ax, dY, dw, (by (rw [if_neg (by assumption)]; exact bG)), jB, ay, ah, kX, iU, hF⟩
 replace kX := (kX.ai U9).aF aX KO
 replace iU := (iU.ai U9).aF aX BC
 replace dw := (dw.ai U9).aF aX yD
 replace bG := aX.au (U9.af bG) Ej
 replace ay := aX.au (U9.af ay) DN
 replace ah := aX.au (U9.af ah) Ox
 replace ax := aX.au (U9.af ax) IK
 replace dY := aX.au (U9.af dY) Df
 replace hF := (hF.go0 U9).go1 aX qO
 obtain ⟨he18, ax, dY, dw, bG, jB, ay, ah, kX, iU, hF⟩ := hI
 refine dV (S := (· = b3)) (fun vW di => ?_)
 refine Z.g 1 ?_
 replace bG := di.af bG
 refine ack (fun w' hw' => by have bG := (Fr.jq hw').af bG; exact (kH (by kernel_rfl) bG (by rfl))) (fun h18 => ?_) (fun h18 => ?_)
 refine jv (jv (mr ?_))
 refine Z.g 2 ?_
 refine ack (fun w' hw' => by have bG := (Fr.jq hw').af bG; exact (kH (by kernel_rfl) bG (by rfl))) (fun h19 => ?_) (fun h19 => ?_)
 refine jv (jv (mr ?_))
 refine Z.g 1 ?_
 refine aJ (fun xM dF => ?_)
 refine jy ?_
 replace bG := dF.af bG
 refine Z.s bG (fun Cj bG _ dH => ?_)
 replace dw := (dw.ai di).ai dF
 replace dw := dw.aF dH (Own.aT dw (by assumption) (by decide))
 replace dY := dF.af (di.af dY)
 replace dY := dH.au dY (by exact dQ (by assumption) (by assumption) (by decide))
 refine ⟨dH, ?_⟩
 refine Z.g 2 ?_
 refine aJ (fun Gq eQ => ?_)
 replace bG := eQ.af bG
 refine Z.s bG (fun Jl bG _ jD => ?_)
 replace dw := dw.ai eQ
 replace dw := dw.aF jD (Own.aT dw (by assumption) (by decide))
 replace dY := eQ.af dY
 replace dY := jD.au dY (by exact dQ (by assumption) (by assumption) (by decide))
 refine aJ (fun UN kD => ?_)
 refine ak (dJ _ (by omega)) ?_
 replace kX := (((((kX.ai di).ai dF).aF dH sZ).ai eQ).aF jD sZ).ai kD
 replace iU := (((((iU.ai di).ai dF).aF dH tq).ai eQ).aF jD tq).ai kD
 replace ax := kD.af (jD.au (eQ.af (dH.au (dF.af (di.af ax)) qJ)) qJ)
 replace ay := kD.af (jD.au (eQ.af (dH.au (dF.af (di.af ay)) qK)) qK)
 replace ah := kD.af (jD.au (eQ.af (dH.au (dF.af (di.af ah)) mi)) mi)
 replace hF := (((((hF.go0 di).go0 dF).go1 dH jH).go0 eQ).go1 jD jH).go0 kD
 replace dw := dw.ai kD
 replace dY := kD.af dY
 replace bG := kD.af bG
 exact ⟨⟨k + 1, (Gs.fP s1 x5.m).1, (Gs.mrg o1 (Gs.fP s1 x5.m).2), bp18, A18, n18, cp18, (by rfl), by omega, (Gs.zJ hinv (Gs.GY hx5) he18), hS2, hbp2, hov2, nf1b, nf2b, ng1b, ng2b, ax, dY, dw, (by (rw [Gs.amz (by assumption) (by assumption)]; exact bG)), ay, ah, kX, iU, hF⟩, cnt_lt (by rfl) rfl (by omega)⟩
 refine eX ?_
 refine Z.g 2 ?_
 refine eX ?_
 replace jB := di.af jB
 refine bI (fun w' hw' => by have jB := hw'.au jB (Ne.symm Ej); exact (kH (by kernel_rfl) jB (by rfl))) ?_
 refine jL ?_
 refine Z.g 1 ?_
 refine aJ (fun JC iq => ?_)
 refine jy ?_
 replace bG := iq.af bG
 refine Z.s bG (fun Pg bG _ jm => ?_)
 replace dw := (dw.ai di).ai iq
 replace dw := dw.aF jm (Own.aT dw (by assumption) (by decide))
 replace dY := iq.af (di.af dY)
 replace dY := jm.au dY (by exact dQ (by assumption) (by assumption) (by decide))
 refine ⟨jm, ?_⟩
 refine Z.g 2 ?_
 refine aJ (fun MV iw => ?_)
 replace bG := iw.af bG
 refine Z.s bG (fun Vw bG _ jC => ?_)
 replace dw := dw.ai iw
 replace dw := dw.aF jC (Own.aT dw (by assumption) (by decide))
 replace dY := iw.af dY
 replace dY := jC.au dY (by exact dQ (by assumption) (by assumption) (by decide))
 refine aJ (fun Ve kK => ?_)
 refine ak (dJ _ (by omega)) ?_
 replace kX := (((((kX.ai di).ai iq).aF jm sZ).ai iw).aF jC sZ).ai kK
 replace iU := (((((iU.ai di).ai iq).aF jm tq).ai iw).aF jC tq).ai kK
 replace ax := kK.af (jC.au (iw.af (jm.au (iq.af (di.af ax)) qJ)) qJ)
 replace ay := kK.af (jC.au (iw.af (jm.au (iq.af (di.af ay)) qK)) qK)
 replace ah := kK.af (jC.au (iw.af (jm.au (iq.af (di.af ah)) mi)) mi)
 replace hF := (((((hF.go0 di).go0 iq).go1 jm jH).go0 iw).go1 jC jH).go0 kK
 replace dw := dw.ai kK
 replace dY := kK.af dY
 replace bG := kK.af bG
 exact ⟨⟨k + 1, (Gs.fP s1 x5.m).1, (Gs.mrg o1 (Gs.fP s1 x5.m).2), bp18, A18, n18, cp18, (by rfl), by omega, (Gs.zJ hinv (Gs.GY hx5) he18), hS2, hbp2, hov2, nf1b, nf2b, ng1b, ng2b, ax, dY, dw, (by (rw [Gs.amA (by assumption) (by assumption)]; exact bG)), ay, ah, kX, iU, hF⟩, cnt_lt (by rfl) rfl (by omega)⟩
 refine eX ?_
 refine Z.g 1 ?_
 refine eX ?_
 replace jB := di.af jB
 refine bI (fun w' hw' => by have jB := (Fr.jq hw').af jB; exact (kH (by kernel_rfl) jB (by rfl))) ?_
 refine jL ?_
 refine Z.g 2 ?_
 refine ack (fun w' hw' => by have bG := (Fr.jq hw').af bG; exact (kH (by kernel_rfl) bG (by rfl))) (fun h30 => ?_) (fun h30 => ?_)
 refine jv (jv (mr ?_))
 refine Z.g 1 ?_
 refine aJ (fun w31 qh => ?_)
 refine jy ?_
 replace bG := qh.af bG
 refine Z.s bG (fun w32 bG _ mO => ?_)
 replace dw := (dw.ai di).ai qh
 replace dw := dw.aF mO (Own.aT dw (by assumption) (by decide))
 replace dY := qh.af (di.af dY)
 replace dY := mO.au dY (by exact dQ (by assumption) (by assumption) (by decide))
 refine ⟨mO, ?_⟩
 refine Z.g 2 ?_
 refine aJ (fun w33 uI => ?_)
 replace bG := uI.af bG
 refine Z.s bG (fun YJ bG _ pI => ?_)
 replace dw := dw.ai uI
 replace dw := dw.aF pI (Own.aT dw (by assumption) (by decide))
 replace dY := uI.af dY
 replace dY := pI.au dY (by exact dQ (by assumption) (by assumption) (by decide))
 refine aJ (fun w35 qA => ?_)
 refine ak (dJ _ (by omega)) ?_
 replace kX := (((((kX.ai di).ai qh).aF mO sZ).ai uI).aF pI sZ).ai qA
 replace iU := (((((iU.ai di).ai qh).aF mO tq).ai uI).aF pI tq).ai qA
 replace ax := qA.af (pI.au (uI.af (mO.au (qh.af (di.af ax)) qJ)) qJ)
 replace ay := qA.af (pI.au (uI.af (mO.au (qh.af (di.af ay)) qK)) qK)
 replace ah := qA.af (pI.au (uI.af (mO.au (qh.af (di.af ah)) mi)) mi)
 replace hF := (((((hF.go0 di).go0 qh).go1 mO jH).go0 uI).go1 pI jH).go0 qA
 replace dw := dw.ai qA
 replace dY := qA.af dY
 replace bG := qA.af bG
 exact ⟨⟨k + 1, (Gs.fP s1 x5.m).1, (Gs.mrg o1 (Gs.fP s1 x5.m).2), bp18, A18, n18, cp18, (by rfl), by omega, (Gs.zJ hinv (Gs.GY hx5) he18), hS2, hbp2, hov2, nf1b, nf2b, ng1b, ng2b, ax, dY, dw, (by (rw [Gs.amB (by assumption) (by assumption)]; exact bG)), ay, ah, kX, iU, hF⟩, cnt_lt (by rfl) rfl (by omega)⟩
 refine eX ?_
 refine Z.g 2 ?_
 refine eX ?_
 refine bI (fun w' hw' => by have jB := hw'.au jB (Ne.symm Ej); exact (kH (by kernel_rfl) jB (by rfl))) ?_
 refine jL ?_
 refine Z.g 1 ?_
 refine aJ (fun w36 pJ => ?_)
 refine jy ?_
 replace bG := pJ.af bG
 refine Z.s bG (fun w37 bG _ ql => ?_)
 replace dw := (dw.ai di).ai pJ
 replace dw := dw.aF ql (Own.aT dw (by assumption) (by decide))
 replace dY := pJ.af (di.af dY)
 replace dY := ql.au dY (by exact dQ (by assumption) (by assumption) (by decide))
 refine ⟨ql, ?_⟩
 refine Z.g 2 ?_
 refine aJ (fun w38 xO => ?_)
 replace bG := xO.af bG
 refine Z.s bG (fun w39 bG _ vX => ?_)
 replace dw := dw.ai xO
 replace dw := dw.aF vX (Own.aT dw (by assumption) (by decide))
 replace dY := xO.af dY
 replace dY := vX.au dY (by exact dQ (by assumption) (by assumption) (by decide))
 refine aJ (fun w40 nY => ?_)
 refine ak (dJ _ (by omega)) ?_
 replace kX := (((((kX.ai di).ai pJ).aF ql sZ).ai xO).aF vX sZ).ai nY
 replace iU := (((((iU.ai di).ai pJ).aF ql tq).ai xO).aF vX tq).ai nY
 replace ax := nY.af (vX.au (xO.af (ql.au (pJ.af (di.af ax)) qJ)) qJ)
 replace ay := nY.af (vX.au (xO.af (ql.au (pJ.af (di.af ay)) qK)) qK)
 replace ah := nY.af (vX.au (xO.af (ql.au (pJ.af (di.af ah)) mi)) mi)
 replace hF := (((((hF.go0 di).go0 pJ).go1 ql jH).go0 xO).go1 vX jH).go0 nY
 replace dw := dw.ai nY
 replace dY := nY.af dY
 replace bG := nY.af bG
 exact ⟨⟨k + 1, (Gs.fP s1 x5.m).1, (Gs.mrg o1 (Gs.fP s1 x5.m).2), bp18, A18, n18, cp18, (by rfl), by omega, (Gs.zJ hinv (Gs.GY hx5) he18), hS2, hbp2, hov2, nf1b, nf2b, ng1b, ng2b, ax, dY, dw, (by (rw [Gs.amC (by assumption) (by assumption)]; exact bG)), ay, ah, kX, iU, hF⟩, cnt_lt (by rfl) rfl (by omega)⟩
 refine aH ?_
 refine hJ1 _ _ ?_
 exact ⟨_, _, _, _, _, _, (Gs.Yn hinv (by omega)), hS1, hbp, hov, ax, kV, fE, bG, ay, ah, hF⟩
 replace ax := U3.af ax
 replace ah := U3.af ah
 replace ay := U3.af ay
 replace hF := hF.go0 U3
 obtain ⟨s1, o1, bp1, A1, n1, cp1, hfin, hS1, hbp, hov, ax, kV, fE, bG, ay, ah, hF⟩ := hI
 refine Z.f 3 ?_
 refine Z.l ah ?_
 refine az (jO _ _ _ _ _) (fun h41 => ?_) (fun h41 => ?_)
 refine aK ?_
 refine Z.f 3 ?_
 refine Z.l ah ?_
 refine ak (bF (l := [(0, 1), (1, 1), (2, 1), (3, 1)]) (z := #[Z.u 0, .bool false, .bool false, Z.i 0]) (cs := Gs.re (Gs.yh x.e)) (by kernel_rfl) (by rfl)) ?_
 refine Z.t 4 ((Gs.re (Gs.yh x.e)).toArray) (by (simp [Value.cells, Value.oneCell', Gs.cv, Gs.fv, Gs.ie, Gs.pe, Gs.oe, Gs.cu, Gs.fe, Gs.eY, Gs.ce, Gs.dZ, Gs.re]; done)) ay (fun w43 ay _ pK => ?_)
 replace fE := fE.aF pK (Own.aT fE (by assumption) (by decide))
 replace kV := pK.au kV (by exact dQ (by assumption) (by assumption) (by decide))
 refine Z.a 4 ay ?_
 replace ax := pK.au ax jk
 replace hF := hF.go1 pK fD
 rw [hfin]; (rw [if_neg (by assumption)]; exact ⟨_, rfl, rfl, bp1, A1, n1, cp1, ax, kV, fE, hS1.2.1, hbp, hov, hF⟩)
 refine aH ?_
 refine Z.b 4 ((Gs.re o1).toArray) bG ?_
 refine Z.t 4 ((Gs.re o1).toArray) (by (simp [Value.cells, Value.oneCell', Gs.cv, Gs.fv, Gs.ie, Gs.pe, Gs.oe, Gs.cu, Gs.fe, Gs.eY, Gs.ce, Gs.dZ, Gs.re]; done)) ay (fun w45 ay _ BO => ?_)
 replace fE := fE.aF BO (Own.aT fE (by assumption) (by decide))
 replace kV := BO.au kV (by exact dQ (by assumption) (by assumption) (by decide))
 refine Z.a 4 ay ?_
 replace ax := BO.au ax jk
 replace hF := hF.go1 BO fD
 rw [hfin]; (rw [if_pos (Classical.not_not.1 (by assumption))]; exact ⟨_, rfl, rfl, bp1, A1, n1, cp1, ax, kV, fE, hS1.2.1, hbp, hov, hF⟩)
theorem aei {s : Gs.gV} {A : Option Addr} {n cp bp bs B0 : Nat} {w : World} (ax : Z.h w bs #[Z.i s.r0, Z.i s.c0, Z.i s.r1, Z.i s.c1, Z.i s.wh, Z.p bp] 89) (ag : Z.h w bp #[Z.i s.r, Z.i s.c, .slice A n cp, Z.i s.cur] 91) (ae : Own B0 w 37 5 (.slice A n cp) (rows Gs.cv s.cs)) (hS : Gs.Sw n s) (hB0 : B0 ≤ w.heap.size) {x : Gs.qj} {fs : List Gs.Fd} {fA : Option Addr} {fc : Nat} (kX : Rd w fA (rows Gs.fe fs)) (iU : Gs.iE w fs) (hfw : Gs.DF fs) (hfl : Gs.Zm fs) (hfn : fs.length ≤ 100000) (nf1 : rows Gs.fe fs = [] ∨ ∀ k, fC fA k → ¬ aG (.slice A n cp) k) (nf2 : rows Gs.fe fs = [] ∨ ∀ k, fC fA k → k ≠ bp) (nf3 : rows Gs.fe fs = [] ∨ ∀ k, fC fA k → k ≠ bs) (ng1 : fs = [] ∨ ∀ k, Gs.lF fs k → ¬ aG (.slice A n cp) k) (ng2 : fs = [] ∨ ∀ k, Gs.lF fs k → k ≠ bp) (ng3 : fs = [] ∨ ∀ k, Gs.lF fs k → k ≠ bs) (hk : x.k = 243) :
    oX 65 #[Z.p bs, .agg (Gs.ce x fA fs.length fc).toArray] w (Zj (Gs.kU x.e (Gs.rX fs) s Gs.qw).1 (Gs.kU x.e (Gs.rX fs) s Gs.qw).2 A n cp bp bs B0 w) := by
 refine YX.calls ?_
 unfold YX
 have hW := hS.2
 obtain ⟨hn, hcw, hcu, hp, hN, hb⟩ := id hW
 have hF : aB (fun k => (aG (.slice A n cp) k ∨ k = bp) ∨ k = bs) w w := Fr.refl _ _ _
 refine Z.x ((Gs.ce x fA fs.length fc).toArray) (fun b1 w1 e1 ah _ U1 => ?_)
 refine Z.n ((Gs.re Gs.qw).toArray) (fun b2 w2 e2 ay _ U2 => ?_)
 replace ax := U1.af ax
 have jk : bs ≠ b2 := by have := aj ax; omega
 replace ag := U1.af ag
 have fF : bp ≠ b2 := by have := aj ag; omega
 replace hF := hF.go0 U1
 have fD : w.heap.size ≤ b2 := by have := hF.size; omega
 refine Z.f 0 ?_
 replace ah := U2.af ah
 refine Z.l ah ?_
 refine jQ (dh _ _ _ _ _) (by omega) ?_
 refine aH ?_
 refine jQ (dh _ _ _ _ _) (by omega) ?_
 refine aH ?_
 refine jQ (dh _ _ _ _ _) (by omega) ?_
 refine aH ?_
 refine jQ (dh _ _ _ _ _) (by omega) ?_
 refine aH ?_
 refine bQ (fun g w' => (g 43 = .bool false) ∧ (Z.h w' bs #[Z.i s.r0, Z.i s.c0, Z.i s.r1, Z.i s.c1, Z.i s.wh, Z.p bp] 89) ∧ (Z.h w' bp #[Z.i s.r, Z.i s.c, .slice A n cp, Z.i s.cur] 91) ∧ (Own B0 w' 37 5 (.slice A n cp) (rows Gs.cv s.cs)) ∧ (Rd w' fA (rows Gs.fe fs)) ∧ (Gs.iE w' fs) ∧ (Z.h w' b1 ((Gs.ce x fA fs.length fc).toArray) 124) ∧ (Z.h w' b2 ((Gs.re Gs.qw).toArray) 66) ∧ (aB (fun k => (aG (.slice A n cp) k ∨ k = bp) ∨ k = bs) w w')) (fun J1 hJ1 => ?_) (fun gJ1 jY hI => ?_)
 refine jQ (dh _ _ _ _ _) (by omega) ?_
 refine aH ?_
 refine jQ (dh _ _ _ _ _) (by omega) ?_
 refine aH ?_
 refine jQ (dh _ _ _ _ _) (by omega) ?_
 refine hJ1 _ _ ?_
 replace ae := (ae.ai U1).ai U2
 replace kX := (kX.ai U1).ai U2
 replace iU := (iU.ai U1).ai U2
 replace ax := U2.af ax
 replace ag := U2.af ag
 replace hF := hF.go0 U2
 exact ⟨(by rfl), ax, ag, ae, kX, iU, ah, ay, hF⟩
 replace ae := (ae.ai U1).ai U2
 replace kX := (kX.ai U1).ai U2
 replace iU := (iU.ai U1).ai U2
 replace ax := U2.af ax
 replace ag := U2.af ag
 replace hF := hF.go0 U2
 obtain ⟨g43, ax, ag, ae, kX, iU, ah, ay, hF⟩ := hI
 rw [g43]
 refine aH ?_
 refine qf (dh _ _ _ _ _) (hk) ?_
 refine aK ?_
 refine Z.b 5 ((Gs.ce x fA fs.length fc).toArray) ah ?_
 refine aI (WX ax ag ae hS (by have := hF.size; omega) kX iU hfw hfl hfn nf1 nf2 nf3 ng1 ng2 ng3) (fun v3 w3 D3 => ?_)
 have aN := ae
 have qF3 := hF.size
 have amD := hF.size
 obtain ⟨rfl, bp54, A54, n54, cp54, ax, xn, qC, hn54, hb54, ho54, U3⟩ := D3
 replace ay := U3.get ay (fun hs => by rcases hs with (hs | hs) | hs <;> first | (first | exact Own.aT aN ay (by decide) _ hs rfl | (have := Own.ge aN hs; omega)) | (exact absurd hs (Ne.symm fF)) | (exact absurd hs (Ne.symm jk)))
 replace hF := hF.go U3 (fun i hi hs => by exact hs)
 clear aN
 refine Z.t 4 ((Gs.re (Gs.kU x.e (Gs.rX fs) s Gs.qw).2).toArray) (by (simp [Value.cells, Value.oneCell', Gs.cv, Gs.fv, Gs.ie, Gs.pe, Gs.oe, Gs.cu, Gs.fe, Gs.eY, Gs.ce, Gs.dZ, Gs.re]; done)) ay (fun w4 ay _ U4 => ?_)
 replace qC := qC.aF U4 (Own.aT qC (by assumption) (by decide))
 replace xn := U4.au xn (by exact dQ (by assumption) (by assumption) (by decide))
 refine Z.a 4 ay ?_
 replace ax := U4.au ax jk
 replace hF := hF.go1 U4 fD
 exact ⟨_, rfl, rfl, bp54, A54, n54, cp54, ax, xn, qC, hn54, hb54.imp id (fun h => by omega), (fun k hk => (ho54 k hk).imp id (fun h => by omega)), hF⟩
theorem aej {s : Gs.gV} {A : Option Addr} {n cp bp bs B0 : Nat} {w : World} (ax : Z.h w bs #[Z.i s.r0, Z.i s.c0, Z.i s.r1, Z.i s.c1, Z.i s.wh, Z.p bp] 89) (ag : Z.h w bp #[Z.i s.r, Z.i s.c, .slice A n cp, Z.i s.cur] 91) (ae : Own B0 w 37 5 (.slice A n cp) (rows Gs.cv s.cs)) (hS : Gs.Sw n s) (hB0 : B0 ≤ w.heap.size) {x : Gs.qj} {fs : List Gs.Fd} {fA : Option Addr} {fc : Nat} (kX : Rd w fA (rows Gs.fe fs)) (iU : Gs.iE w fs) (hfw : Gs.DF fs) (hfl : Gs.Zm fs) (hfn : fs.length ≤ 100000) (nf1 : rows Gs.fe fs = [] ∨ ∀ k, fC fA k → ¬ aG (.slice A n cp) k) (nf2 : rows Gs.fe fs = [] ∨ ∀ k, fC fA k → k ≠ bp) (nf3 : rows Gs.fe fs = [] ∨ ∀ k, fC fA k → k ≠ bs) (ng1 : fs = [] ∨ ∀ k, Gs.lF fs k → ¬ aG (.slice A n cp) k) (ng2 : fs = [] ∨ ∀ k, Gs.lF fs k → k ≠ bp) (ng3 : fs = [] ∨ ∀ k, Gs.lF fs k → k ≠ bs) (gW : Gs.iE w [⟨0, 0, x⟩]) (hwx : Gs.CG x) (hlx : Gs.GU x.os ∧ x.os.length ≤ 100000) (nax1 : [(⟨0, 0, x⟩ : Gs.Fd)] = [] ∨ ∀ k, Gs.lF [⟨0, 0, x⟩] k → ¬ aG (.slice A n cp) k) (nax2 : [(⟨0, 0, x⟩ : Gs.Fd)] = [] ∨ ∀ k, Gs.lF [⟨0, 0, x⟩] k → k ≠ bp) (nax3 : [(⟨0, 0, x⟩ : Gs.Fd)] = [] ∨ ∀ k, Gs.lF [⟨0, 0, x⟩] k → k ≠ bs)  :
    oX 65 #[Z.p bs, .agg (Gs.ce x fA fs.length fc).toArray] w (Zj (Gs.zy s ⟨x.m, Gs.rX fs⟩).1 (Gs.zy s ⟨x.m, Gs.rX fs⟩).2 A n cp bp bs B0 w) := by
 by_cases h : x.k = 243
 rw [Gs.aoC (c := ⟨x.m, Gs.rX fs⟩) h]
 exact aei ax ag ae hS hB0 kX iU hfw hfl hfn nf1 nf2 nf3 ng1 ng2 ng3 h
 rw [Gs.aoD (c := ⟨x.m, Gs.rX fs⟩) h]
 exact Ti ax ag ae hS hB0 gW hwx hlx nax1 nax2 nax3 h
theorem xq {s : Gs.gV} {A : Option Addr} {n cp bp bs B0 : Nat} {w : World} (ax : Z.h w bs #[Z.i s.r0, Z.i s.c0, Z.i s.r1, Z.i s.c1, Z.i s.wh, Z.p bp] 89) (ag : Z.h w bp #[Z.i s.r, Z.i s.c, .slice A n cp, Z.i s.cur] 91) (ae : Own B0 w 37 5 (.slice A n cp) (rows Gs.cv s.cs)) (hS : Gs.Sw n s) (hB0 : B0 ≤ w.heap.size) {bA : Option Addr} {bn bc : Nat} {b : List Int} (rdb : Rd w bA (vals .u8 b)) (hbn : bn = b.length) (hbc : bn ≤ bc) (hbs : Bs b) (hbl : bn ≤ 100000) (nab1 : vals .u8 b = [] ∨ ∀ k, fC bA k → ¬ aG (.slice A n cp) k) (nab2 : vals .u8 b = [] ∨ ∀ k, fC bA k → k ≠ bp) (nab3 : vals .u8 b = [] ∨ ∀ k, fC bA k → k ≠ bs)  :
    oX 27 #[Z.p bs, .slice bA bn bc] w (Zj (Gs.uK s b).1 (Gs.uK s b).2 A n cp bp bs B0 w) := by
 refine F27.calls ?_
 unfold F27
 have hW := hS.2
 obtain ⟨hn, hcw, hcu, hp, hN, hb⟩ := id hW
 have hF : aB (fun k => (aG (.slice A n cp) k ∨ k = bp) ∨ k = bs) w w := Fr.refl _ _ _
 refine Z.n ((Gs.re Gs.qw).toArray) (fun b1 w1 e1 ah _ U1 => ?_)
 have xh : bs ≠ b1 := by have := aj ax; omega
 have jJ : bp ≠ b1 := by have := aj ag; omega
 have gZ := ae.apart e1
 have bY : w.heap.size ≤ b1 := by have := hF.size; omega
 replace rdb := rdb.ai U1
 refine aI (MW b.length rdb hbn hbc hbs hbl (by omega)) (fun v2 w2 D2 => ?_)
 replace hF := hF.go0 U1
 have qF9 := hF.size
 obtain ⟨x9, fs9, fA9, fc9, er9, rfl, hpn9, acl, acm, acn, gX9, gA9, gG9, hw9, hfw9, hk9, U2⟩ := D2
 replace ax := U1.af ax
 have aco := gX9.ne (aj ax)
 replace ag := U1.af ag
 have acp := gX9.ne (aj ag)
 replace ae := ae.ai U1
 have Un : _ ∨ ∀ k, _ → ¬ aG _ k := gX9.imp_right fun h k hk hs => by have := h k hk; have := (Own.ge ae hs).2; omega
 have acr := gA9.ne (aj ax)
 have acs := gA9.ne (aj ag)
 have Uo : _ ∨ ∀ k, _ → ¬ aG _ k := gA9.imp_right fun h k hk hs => by have := h k hk; have := (Own.ge ae hs).2; omega
 have acu := gG9.ne (aj ax)
 have acv := gG9.ne (aj ag)
 have Ur : _ ∨ ∀ k, _ → ¬ aG _ k := gG9.imp_right fun h k hk hs => by have := h k hk; have := (Own.ge ae hs).2; omega
 have hpk := Gs.agl hpn9 (by omega)
 have hpl := Gs.agm hpn9 (by omega)
 refine Z.e ?_
 refine Z.e ?_
 refine Z.n ((Gs.ce Gs.jS none 0 0).toArray) (fun b3 w3 e3 bG _ U3 => ?_)
 replace ax := U2.af ax
 have qJ : bs ≠ b3 := by have := aj ax; omega
 replace ag := U2.af ag
 have lm : bp ≠ b3 := by have := aj ag; omega
 replace ae := ae.ai U2
 have iO := ae.apart e3
 replace ah := U2.af ah
 have mi : b1 ≠ b3 := by have := aj ah; omega
 have acw := acl.apart e3
 have acx := acm.apart e3
 have acy := acn.apart e3
 replace hF := hF.go0 U2
 have jH : w.heap.size ≤ b3 := by have := hF.size; omega
 refine Z.t 5 ((Gs.ce x9 fA9 fs9.length fc9).toArray) (by (simp [Value.cells, Value.oneCell', Gs.cv, Gs.fv, Gs.ie, Gs.pe, Gs.oe, Gs.cu, Gs.fe, Gs.eY, Gs.ce, Gs.dZ, Gs.re]; done)) bG (fun w4 bG _ U4 => ?_)
 refine az (jO _ _ _ _ _) (fun h5 => ?_) (fun h5 => ?_)
 refine aK ?_
 refine ak (bF (l := [(0, 1), (1, 1), (2, 1), (3, 1)]) (z := #[Z.u 0, .bool false, .bool false, Z.i 0]) (cs := Gs.re (Gs.yh er9)) (by kernel_rfl) (by rfl)) ?_
 replace ah := U4.au (U3.af ah) mi
 refine Z.t 4 ((Gs.re (Gs.yh er9)).toArray) (by (simp [Value.cells, Value.oneCell', Gs.cv, Gs.fv, Gs.ie, Gs.pe, Gs.oe, Gs.cu, Gs.fe, Gs.eY, Gs.ce, Gs.dZ, Gs.re]; done)) ah (fun w7 ah _ U7 => ?_)
 refine Z.a 4 ah ?_
 replace ae := ((ae.ai U3).aF U4 iO).aF U7 gZ
 replace ax := U7.au (U4.au (U3.af ax) qJ) xh
 replace ag := U7.au (U4.au (U3.af ag) lm) jJ
 replace hF := ((hF.go0 U3).go1 U4 jH).go1 U7 bY
 rw [Gs.amE hpn9 (by assumption)]; exact ⟨_, rfl, rfl, bp, A, n, cp, ax, ag, ae, hn, .inl rfl, (fun k hk => .inl hk), hF⟩
 refine aH ?_
 refine Z.b 5 ((Gs.ce x9 fA9 fs9.length fc9).toArray) bG ?_
 replace ae := (ae.ai U3).aF U4 iO
 replace acl := (acl.ai U3).aF U4 acw
 replace acm := (acm.ai U3).aF U4 acx
 replace acn := (acn.ai U3).aF U4 acy
 replace ax := U4.au (U3.af ax) qJ
 replace ag := U4.au (U3.af ag) lm
 replace hF := (hF.go0 U3).go1 U4 jH
 refine aI (aej ax ag ae hS (by have := hF.size; omega) acm acn hfw9 hpk.2 hpl Uo acs acr Ur acv acu acl hw9 hpk.1 Un acp aco) (fun v9 w9 D9 => ?_)
 have aN := ae
 have qF9 := hF.size
 have amx := hF.size
 obtain ⟨rfl, bp18, A18, n18, cp18, ax, dY, dw, hn18, hb18, ho18, U9⟩ := D9
 replace ah := U4.au (U3.af ah) mi
 replace ah := U9.get ah (fun hs => by rcases hs with (hs | hs) | hs <;> first | (first | exact Own.aT aN ah (by decide) _ hs rfl | (have := Own.ge aN hs; omega)) | (exact absurd hs (Ne.symm jJ)) | (exact absurd hs (Ne.symm xh)))
 replace hF := hF.go U9 (fun i hi hs => by exact hs)
 clear aN
 refine Z.t 4 ((Gs.re (Gs.zy s ⟨x9.m, Gs.rX fs9⟩).2).toArray) (by (simp [Value.cells, Value.oneCell', Gs.cv, Gs.fv, Gs.ie, Gs.pe, Gs.oe, Gs.cu, Gs.fe, Gs.eY, Gs.ce, Gs.dZ, Gs.re]; done)) ah (fun w10 ah _ aX => ?_)
 replace dw := dw.aF aX (Own.aT dw (by assumption) (by decide))
 replace dY := aX.au dY (by exact dQ (by assumption) (by assumption) (by decide))
 refine Z.a 4 ah ?_
 replace ax := aX.au ax xh
 replace hF := hF.go1 aX bY
 rw [Gs.Vk hpn9 (Classical.not_not.1 (by assumption))]; exact ⟨_, rfl, rfl, bp18, A18, n18, cp18, ax, dY, dw, hn18, hb18.imp id (fun h => by omega), (fun k hk => (ho18 k hk).imp id (fun h => by omega)), hF⟩
end Go.Proofs.YtjdoakbadehicaaGreatDoor
end
section
namespace Gs
open Go Go.Sh
theorem _root_.Go.Sh.Bs.tail {x : Int} {l : List Int} (h : Bs (x :: l)) : Bs l := fun y hy => h y (List.mem_cons_of_mem _ hy)
theorem _root_.Go.Sh.Bs.head {x : Int} {l : List Int} (h : Bs (x :: l)) : 0 ≤ x ∧ x ≤ 255 := h x (List.mem_cons_self ..)
theorem Xu {l r : List Int} {p : Int} (hb : Bs l) (h : kY l = .ok (p, r)) : Bs r := by
 unfold kY at h
 split at h
 ·cases h; exact hb.tail.tail
 ·cases h
theorem RI {l r : List Int} {c : Int} (hb : Bs l) (h : fG l = .ok (c, r)) : (0 ≤ c ∧ c ≤ 255) ∧ Bs r := by
 rw [dU h] at hb; exact ⟨hb.head, hb.tail⟩
theorem Zz {l r : List Int} {c : Int} (hb : Bs l) (h : rV l = .ok (c, r)) : (0 ≤ c ∧ c ≤ 255) ∧ Bs r := by
 unfold rV at h
 split at h
 ·cases h
 ·split at h
  ·cases h
  ·cases h; exact ⟨hb.head, hb.tail⟩
theorem OO {k : Int} : ∀ {n : Nat} {l r : List Int} {ps : List Pr}, Bs l → jX k n l = .ok (ps, r) → Bs r
 | 0, l, r, ps, hb, h => by unfold jX at h; cases h; exact hb
 | n + 1, l, r, ps, hb, h => by
  unfold jX at h
  split at h
  ·split at h
   ·cases h
   ·split at h
    ·cases h
    ·rename_i h2
     cases h
     exact OO hb.tail.tail h2
  ·cases h
theorem am3 {l r : List Int} {p d : Int} {g : Bool} (hb : Bs l) (h : uA l = .ok ((p, d, g), r)) : (0 ≤ d ∧ d ≤ 255) ∧ Bs r := by
 unfold uA at h
 split at h
 ·cases h
 ·rename_i h1
  have := Xu hb h1
  split at h
  ·cases h
  ·rename_i h2
   have := RI this h2
   split at h
   ·split at h
    ·cases h
    ·rename_i h3
     have := Zz this.2 h3
     cases h; exact this
   ·split at h
    ·cases h; exact this
    ·cases h
theorem am4 {l r : List Int} {x : iK} (hb : Bs l) (h : ji l = .ok (x, r)) : ((0 ≤ x.b ∧ x.b ≤ 255) ∧ Bs x.ds) ∧ Bs r := by
 unfold ji at h
 split at h
 ·cases h
 ·rename_i c r0
  have z : (0 : Int) ≤ 0 ∧ (0 : Int) ≤ 255 := by decide
  split at h
  ·cases h
   exact ⟨⟨z, fun y hy => hb y ((List.takeWhile_sublist _).subset hy)⟩, fun y hy => hb y ((List.dropWhile_sublist _).subset hy)⟩
  split at h
  ·split at h
   ·cases h
   ·rename_i h1; cases h; exact ⟨⟨z, Bs.nil⟩, Xu hb.tail h1⟩
  split at h
  ·split at h
   ·cases h
   ·rename_i h1; cases h; have := RI hb.tail h1; exact ⟨⟨by dsimp only; omega, Bs.nil⟩, this.2⟩
  split at h
  ·split at h
   ·cases h
   ·rename_i h1
    split at h
    ·cases h
    ·rename_i h2; cases h; exact ⟨⟨z, Bs.nil⟩, OO (RI hb.tail h1).2 h2⟩
  split at h
  ·split at h
   ·cases h
   ·rename_i h2; cases h; exact ⟨⟨z, Bs.nil⟩, OO hb.tail h2⟩
  split at h
  ·cases h; exact ⟨⟨z, Bs.nil⟩, hb.tail⟩
  split at h
  ·split at h
   ·cases h
   ·rename_i h1; cases h; have := am3 hb.tail h1; exact ⟨⟨this.1, Bs.nil⟩, this.2⟩
  split at h
  ·split at h
   ·cases h
   ·rename_i h1; cases h; have := Zz hb.tail h1; exact ⟨⟨this.1, Bs.nil⟩, this.2⟩
  ·cases h
theorem TJ : ∀ (m : Nat) (l : List Int), l.length ≤ m → Bs l → uk (gu l).1
 | 0, l, hl, _ => by
  obtain rfl := List.length_eq_zero_iff.1 (Nat.le_zero.1 hl)
  rw [qZ]; exact fun o h => by cases h
 | m + 1, l, hl, hb => by
  by_cases h0 : l = []
  ·subst h0; rw [qZ]; exact fun o h => by cases h
  ·cases h : ji l with
   | error e => rw [KW h0 h]; exact fun o h => by cases h
   | ok x =>
    obtain ⟨x, r⟩ := x
    rw [wJ h0 h]
    have h1 := am4 hb h
    have h2 := OE h
    intro o ho
    rcases List.mem_cons.1 ho with rfl | ho
    ·exact h1.1
    ·exact TJ m r (by omega) h1.2 o ho
def CmW (c : sD) : Prop := uk c.c.os ∧ ∀ f ∈ c.fs, uk f.c.os
theorem uk.nil : uk [] := fun o h => by cases h
theorem am5 {P : List Int → sD × Int} (hP : ∀ b, Bs b → CmW (P b).1) {b : List Int} {f : rZ} (hb : Bs b) (h : FK P b = some f) : uk f.c.os := by
 unfold FK at h
 split at h
 ·rename_i x r
  split at h
  ·unfold EF at h
   split at h
   ·split at h
    ·cases h; exact uk.nil
    ·cases h
   ·cases h
  split at h
  ·unfold BB at h
   split at h
   ·split at h
    ·cases h; exact uk.nil
    ·cases h
   ·cases h
  split at h
  ·unfold writeM' at h
   split at h
   ·rename_i y z t
    split at h
    ·cases h
     exact (hP (z :: t) hb.tail.tail).1
    ·cases h
   ·cases h
  ·cases h
 ·cases h
theorem am6 {l x r : List Int} (hb : Bs l) (h : BU l = some (x, r)) : Bs x ∧ Bs r := by
 unfold BU at h
 split at h
 ·split at h
  ·cases h
  ·cases h
   exact ⟨fun y hy => hb y (List.mem_of_mem_drop (List.mem_of_mem_take hy)), fun y hy => hb y (List.mem_of_mem_drop hy)⟩
 ·cases h
theorem TK {P : List Int → sD × Int} (hP : ∀ b, Bs b → CmW (P b).1) : ∀ (m : Nat) (b : List Int), b.length ≤ m → Bs b → ∀ f ∈ (jM P b).1, uk f.c.os
 | 0, b, hl, _, f, hf => by
  obtain rfl := List.length_eq_zero_iff.1 (Nat.le_zero.1 hl)
  rw [tX] at hf; cases hf
 | m + 1, b, hl, hb, f, hf => by
  by_cases h0 : b = []
  ·subst h0; rw [tX] at hf; cases hf
  ·rw [jM, if_neg h0] at hf
   split at hf
   ·cases hf
   ·rename_i x r hc
    have hl2 := wE hc
    have hw := am6 hb hc
    split at hf
    ·cases hf
    ·rename_i g hg
     rcases List.mem_cons.1 hf with rfl | hf
     ·exact am5 hP hw.1 hg
     ·exact TK hP m r (by omega) hw.2 f hf
theorem TL : ∀ (N : Nat) (b : List Int), Bs b → CmW (iJ N b).1
 | 0, b, _ => ⟨uk.nil, fun f h => by cases h⟩
 | N + 1, b, hb => by
  unfold iJ
  split
  ·exact ⟨uk.nil, fun f h => by cases h⟩
  ·rename_i x r
   split
   ·exact ⟨uk.nil, fun f h => by cases h⟩
   ·split
    ·split
     ·exact ⟨uk.nil, fun f h => by cases h⟩
     ·rename_i w r'
      exact ⟨TJ r'.length r' (Nat.le_refl _) hb.tail.tail, fun f h => by cases h⟩
    ·split
     ·exact ⟨uk.nil, fun f hf => TK (TL N) r.length r (Nat.le_refl _) hb.tail f hf⟩
     ·exact ⟨uk.nil, fun f h => by cases h⟩
theorem Sw.qL {n : Nat} {s : gV} (h : Sw n s) {c : sD} (hw : CmW c) : Sw (Gs.zy s c).1.cs.length (Gs.zy s c).1 := by
 unfold Gs.zy
 split
 ·exact h.fields hw.2
 ·exact h.ZA hw.1
theorem Sw.run {n : Nat} {s : gV} (h : Sw n s) {b : List Int} (hb : Bs b) : Sw (uK s b).1.cs.length (uK s b).1 := by
 unfold uK G9
 split
 ·exact h.qL (TL _ _ hb)
 ·exact h.len
def One (r c : Int) (s : gV) : Prop := (s.r0 = r ∧ s.c0 = c) ∧ (s.r1 = r ∧ s.c1 = c) ∧ s.r = r ∧ s.c = c
section
variable {r c : Int} {s : gV}
theorem One.renew (h : One r c s) (wh : Int) : One r c (bP s wh) := by
 obtain ⟨⟨rfl, rfl⟩, ⟨h1, h2⟩, h3, h4⟩ := h
 unfold bP
 split
 ·exact ⟨⟨rfl, rfl⟩, ⟨h1, h2⟩, rfl, rfl⟩
 ·exact ⟨⟨rfl, rfl⟩, ⟨h1, h2⟩, h1, h2⟩
theorem One.erase (h : One r c s) (x : rU) (wh : Int) : One r c (iT s x wh).1 := h.renew wh
theorem One.ZA (h : One r c s) (x : rU) : One r c (pq s x).1 := by
 unfold pq
 split
 ·exact h
 split
 ·exact h.erase x 0
 split
 ·exact h.erase x 1
 split
 ·exact h
 split <;> exact h
theorem One.field (h : One r c s) (f : rZ) : One r c (fP s f).1 := by
 unfold fP
 split
 ·exact h
 split
 ·exact h.renew _
 ·exact h.ZA _
theorem One.fields {e : Int} : ∀ {fs : List rZ} {s : gV} {o : wu}, One r c s → One r c (kU e fs s o).1
 | [], s, o, h => h
 | f :: fs, s, o, h => by
  unfold kU
  split
  ·exact One.fields (h.field f)
  ·exact h.field f
theorem One.run (h : One r c s) (b : List Int) : One r c (uK s b).1 := by
 unfold uK
 split
 ·unfold Gs.zy
  split
  ·exact h.fields
  ·exact h.ZA _
 ·exact h
end
structure jU where
 A : Option Addr
 cp : Nat
 b : List Int
 k : Int
 x : Int
def de (d : jU) : List Value := [.slice d.A d.b.length d.cp, .int .i64 d.k, .int .u8 d.x]
theorem aaM : Enc de 3 := ⟨fun _ => rfl, fun a u hu => by
 simp only [de, List.mem_cons, List.mem_nil_iff, or_false] at hu
 rcases hu with rfl | rfl | rfl <;> rfl, by decide⟩
def Dw1 (d : jU) : Prop := d.b.length ≤ d.cp ∧ Bs d.b ∧ (0 ≤ d.x ∧ d.x ≤ 255)
def Ah (l : List jU) : Prop := ∀ d ∈ l, Dw1 d
theorem Ah.get {l : List jU} (h : Ah l) {k : Nat} {x : jU} (hx : l[k]? = some x) : Dw1 x := h x (List.mem_of_getElem? hx)
def pO (w : World) (l : List jU) : Prop := ∀ d ∈ l, Rd w d.A (vals .u8 d.b)
def Xv (l : List jU) (k : Nat) : Prop := ∃ d ∈ l, d.b ≠ [] ∧ fC d.A k
def Xa (l : List jU) (B : Nat) : Prop := l = [] ∨ ∀ k, Xv l k → k < B
theorem Xa.ne {l : List jU} {B : Nat} (h : Xa l B) {b : Nat} (hb : B ≤ b) : l = [] ∨ ∀ k, Xv l k → k ≠ b := h.imp_right fun h k hk => by have := h k hk; omega
theorem pO.lt {w : World} {l : List jU} (h : pO w l) : Xa l w.heap.size := .inr fun k ⟨d, hd, hne, hk⟩ => by
 rcases (h d hd).lt with h2 | h2
 ·exact absurd (List.map_eq_nil_iff.1 h2) hne
 ·exact h2 k hk
theorem pO.dO {S : Nat → Prop} {w w' : World} {l : List jU} (h : pO w l) (u : aB S w w') (hs : l = [] ∨ ∀ k, Xv l k → ¬ S k) : pO w' l := by
 intro d hd
 by_cases hne : d.b = []
 ·rw [hne]; exact .inl rfl
 ·refine (h d hd).dO u ?_
  rcases hs with rfl | hs
  ·cases hd
  ·exact .inr fun k hk => hs k ⟨d, hd, hne, hk⟩
theorem pO.ai {w w' : World} {l : List jU} (h : pO w l) (u : aB no w w') : pO w' l := h.dO u (.inr fun _ _ => id)
theorem pO.aF {w w' : World} {l : List jU} {b : Nat} (h : pO w l) (u : aB (· = b) w w') (hs : l = [] ∨ ∀ k, Xv l k → k ≠ b) : pO w' l := h.dO u hs
theorem pO.apart {w : World} {l : List jU} (h : pO w l) {b : Nat} (hb : b = w.heap.size) : l = [] ∨ ∀ k, Xv l k → k ≠ b := h.lt.imp_right fun h k hk => by have := h k hk; omega
theorem pO.get {w : World} {l : List jU} (h : pO w l) {k : Nat} {x : jU} (hx : l[k]? = some x) : Rd w x.A (vals .u8 x.b) := h x (List.mem_of_getElem? hx)
theorem G6 {l : List jU} {i : Nat} {x : jU} {S : Nat → Prop} (h : l = [] ∨ ∀ k, Xv l k → S k) (hx : l[i]? = some x) : vals .u8 x.b = [] ∨ ∀ k, fC x.A k → S k := by
 by_cases hne : x.b = []
 ·left; rw [hne]; rfl
 ·right
  intro k hk
  rcases h with rfl | h
  ·simp at hx
  ·exact h k ⟨x, List.mem_of_getElem? hx, hne, hk⟩
end Gs
namespace Gs
open Go Go.Sh
theorem Sw.Zc {n : Nat} {s : gV} (h : Sw n s) (p : Prop) [Decidable p] : Sw (if p then bP s 0 else s).cs.length (if p then bP s 0 else s) := by
 split
 ·exact h.renew 0
 ·exact h.len
theorem One.Zc {r c : Int} {s : gV} (h : One r c s) (p : Prop) [Decidable p] : One r c (if p then bP s 0 else s) := by
 split
 ·exact h.renew 0
 ·exact h
def uM (r c : Int) : gV := ⟨r, c, r, c, 0, r, c, FT r c, 0⟩
theorem WN (r c : Int) : One r c (uM r c) := ⟨⟨rfl, rfl⟩, ⟨rfl, rfl⟩, rfl, rfl⟩
theorem G5 {r c : Int} (h : aY r c ≠ 0) : Sw (aY r c).toNat (uM r c) := ⟨⟨h, h⟩, Pw.new h⟩
def uh (r c : Int) (ds : List jU) : Prop := aY r c ≠ 0 ∧ aY r c ≤ 60 ∧ ds.length ≤ 20 ∧ ∀ d ∈ ds, d.b.length ≤ 150
theorem uh.no {r c : Int} {ds : List jU} {k : Nat} {d : jU} (h : ds[k]? = some d) (hd : 150 < d.b.length) : ¬ uh r c ds := fun h2 => by
 have := h2.2.2.2 d (List.mem_of_getElem? h); omega
def upto (ds : List jU) (k : Nat) : Prop := ∀ d ∈ ds.take k, d.b.length ≤ 150
theorem ael (ds : List jU) : upto ds 0 := fun d h => by rw [List.take_zero] at h; cases h
theorem Fe {ds : List jU} {k : Nat} {x : jU} (h : upto ds k) (hx : ds[k]? = some x) (hl : x.b.length ≤ 150) : upto ds (k + 1) := fun d hd => by
 rw [List.take_add_one, hx] at hd
 rcases List.mem_append.1 hd with hd | hd
 ·exact h d hd
 ·rw [show d = x by simpa using hd]; exact hl
theorem upto_all {ds : List jU} {k : Nat} (h : upto ds k) (hk : ds.length ≤ k) : ∀ d ∈ ds, d.b.length ≤ 150 := fun d hd => h d (by rw [List.take_of_length_le hk]; exact hd)
end Gs
namespace Go.Sh
open Go
theorem GZ.yN {A : Option Addr} {xs ys : List Value} {B : Nat} {w : World} {e size : Nat} {v : Value} (h : GZ A xs B) (o : Own B w e size v ys) : xs = [] ∨ ∀ k, fC A k → ¬ aG v k := h.imp_right fun h k hk hs => by
 have := h k hk
 have := (Own.ge o hs).1
 omega
theorem _root_.Gs.Xa.yN {l : List Gs.jU} {ys : List Value} {B : Nat} {w : World} {e size : Nat} {v : Value} (h : Gs.Xa l B) (o : Own B w e size v ys) : l = [] ∨ ∀ k, Gs.Xv l k → ¬ aG v k := h.imp_right fun h k hk hs => by
 have := h k hk
 have := (Own.ge o hs).1
 omega
end Go.Sh
namespace Gs
open Go Go.Sh
def kv (a : Int × Int) : List Value := [.int .i64 a.1, .int .u8 a.2]
def Kw (a : Int × Int) : Prop := 0 ≤ a.2 ∧ a.2 ≤ 255
end Gs
end
section
namespace Gs
open Go Go.Sh
theorem UC : Gc zc := fun h => by cases h
theorem agh {x : Cell} (h : x.st = false) : Gc x := fun h2 => by rw [h] at h2; cases h2
theorem WH {cs : List Cell} : Gw cs ↔ ∀ x ∈ cs, Gc x := by
 constructor
 ·intro h x hx
  obtain ⟨k, hk⟩ := List.getElem?_of_mem hx
  have hl := (List.getElem?_eq_some_iff.1 hk).1
  have h2 := h (k : Int)
  unfold bH at h2
  rw [if_pos (by omega), List.getD_eq_getElem?_getD, Int.toNat_natCast, hk] at h2
  exact h2
 ·intro h i
  unfold bH
  split
  ·rename_i hi
   rw [List.getD_eq_getElem?_getD, List.getElem?_eq_getElem (by omega)]
   exact h _ (List.getElem_mem _)
  ·exact UC
theorem adX (n : Nat) : Gw (List.replicate n zc) := WH.2 fun x hx => by rw [List.eq_of_mem_replicate hx]; exact UC
theorem Gw.fill {cs : List Cell} (h : Gw cs) {x : Cell} (hx : Gc x) (l : List Int) : Gw (sQ cs l x) := by
 induction l generalizing cs with
 | nil => exact h
 | cons i l ih => exact ih (cs := cs.set i.toNat x) (WH.2 fun y hy => by rcases List.mem_or_eq_of_mem_set hy with hy | rfl; exact WH.1 h y hy; exact hx)
theorem Gw.wipe {cs : List Cell} (h : Gw cs) (l : List Int) : Gw (o5 cs l) := by
 unfold o5
 induction l generalizing cs with
 | nil => exact h
 | cons i l ih => exact ih (cs := if jI cs i = true then iC cs i zc else cs) (by split; exact h.set UC i; exact h)
theorem Gw.opn {cs : List Cell} (h : Gw cs) (l : List Nat) : Gw (rM cs l) := LK h (fun _ s h => h.mod false s) l
theorem Gw.unm {cs : List Cell} (h : Gw cs) (l : List Nat) : Gw (rJ cs l) := LU h (fun _ s h => h.mod false s) l
theorem Gw.sS {cs : List Cell} (h : Gw cs) : Gw (sS cs) := (h.wipe _).opn _
theorem Gw.rest : ∀ (m : Nat) {cs : List Cell} (i : Int), Gw cs → Gw (mM m cs i)
 | 0, _, _, h => h
 | m + 1, cs, i, h => by
  unfold mM
  split
  ·exact h
  ·exact Gw.rest m (i + 1) (h.set UC i)
theorem Pw.sS {r c cur : Int} {n : Nat} {cs : List Cell} (h : Pw r c n cs cur) : Pw r c n (sS cs) (um (sS cs)) := by
 have hl := KH cs
 have hb := LJ (cs := Gs.sS cs) (by have := h.1; have := h.2.2.2.1; omega)
 exact ⟨by rw [hl]; exact h.1, Zb h.2.1, by have := h.1; omega, h.2.2.2⟩
theorem WI (ps : List Pr) : ∀ c : Cell, (nN c ps).st = c.st ∧ (nN c ps).ge = c.ge := by
 induction ps with
 | nil => exact fun c => ⟨rfl, rfl⟩
 | cons p ps ih =>
  intro c
  have h1 : (sV c p).st = c.st ∧ (sV c p).ge = c.ge := by
   unfold sV
   split
   ·exact ⟨rfl, rfl⟩
   split
   ·exact ⟨rfl, rfl⟩
   split
   ·exact ⟨rfl, rfl⟩
   split <;> exact ⟨rfl, rfl⟩
  have h2 := ih (sV c p)
  exact ⟨h2.1.trans h1.1, h2.2.trans h1.2⟩
theorem WJ {c : Cell} (h : Gc c) (ps : List Pr) : Gc (nN c ps) := fun hs => by
 rw [(WI ps c).2]
 exact h ((WI ps c).1.symm.trans hs)
theorem Qa {b : Br} (h : Gw b.cs) {x : Cell} (hx : Gc x) : Gw (nJ b x).cs := h.set hx _
theorem ajQ (ds : List Int) : ∀ {b : Br}, Gw b.cs → Gw (lL ds b).cs := by
 induction ds with
 | nil => exact fun h => h
 | cons d ds ih => exact fun {b} h => ih (b := nJ b (qP b d false)) (Qa h (agh rfl))
theorem aim {o : iK} {b : Br} (h : Gw b.cs) : Gw (qL o b).1.cs := by
 have key : ∀ f, oV o.k = some f → Gw (f o b).1.cs := by
  intro f hf
  unfold oV at hf
  split at hf
  ·cases hf; exact ajQ _ h
  split at hf
  ·cases hf; exact Qa h (agh rfl)
  split at hf
  ·cases hf; unfold pF; split <;> exact h
  split at hf
  ·cases hf
   unfold uy
   refine Qa h ?_
   split
   ·exact fun _ => rfl
   ·exact WJ (fun _ => rfl) _
  split at hf
  ·cases hf; exact h
  split at hf
  ·cases hf
   unfold nD
   split
   ·exact h
   ·exact Qa h (WJ (h _) _)
  split at hf
  ·cases hf; exact h
  split at hf
  ·cases hf
   unfold wX
   show Gw (if _ then _ else _)
   split
   ·exact Gw.rest _ _ h
   ·exact h
  split at hf
  ·cases hf; unfold vV; split; exact h; exact h.fill (agh rfl) _
  split at hf
  ·cases hf; unfold rW; split; exact h; exact h.wipe _
  ·cases hf
 unfold qL
 split
 ·exact h
 ·rename_i f hf; exact key f hf
theorem WL : ∀ (os : List iK) {b : Br}, Gw b.cs → Gw (jW os b).1.cs
 | [], _, h => h
 | o :: os, b, h => by
  unfold jW
  split
  ·exact WL os (aim h)
  ·exact aim h
theorem Oq {s : gV} (h : Gw s.cs) (c : rU) (i : Int) : Gw (qM s c i).1.cs := WL _ h
theorem IC (s : gV) (wh : Int) : Gw (bP s wh).cs := by unfold bP; split <;> exact adX _
theorem adY {s : gV} (h : Gw s.cs) (c : rU) : Gw (pq s c).1.cs := by
 unfold pq
 split
 ·refine Oq ?_ _ _
  unfold BZ
  show Gw (if _ then _ else _)
  split
  ·exact h.unm _
  ·exact h
 split
 ·exact Oq (IC _ _) _ _
 split
 ·exact Oq (IC _ _) _ _
 split
 ·exact h.sS
 split <;> exact h
theorem WM {s : gV} (h : Gw s.cs) (f : rZ) : Gw (fP s f).1.cs := by
 unfold fP
 split
 ·exact h
 split
 ·exact IC _ _
 ·exact adY h _
theorem SY {e : Int} : ∀ {fs : List rZ} {s : gV} {o : wu}, Gw s.cs → Gw (kU e fs s o).1.cs
 | [], _, _, h => h
 | f :: fs, s, o, h => by
  unfold kU
  split
  ·exact SY (WM h f)
  ·exact WM h f
theorem amf {s : gV} (h : Gw s.cs) (b : List Int) : Gw (uK s b).1.cs := by
 unfold uK
 split
 ·unfold Gs.zy
  split
  ·exact SY h
  ·exact adY h _
 ·exact h
def zH (r c : Int) (s : gV) : Prop := One r c s ∧ Gw s.cs
theorem zH.run {r c : Int} {s : gV} (h : zH r c s) (b : List Int) : zH r c (uK s b).1 := ⟨h.1.run b, amf h.2 b⟩
theorem zH.Zc {r c : Int} {s : gV} (h : zH r c s) (p : Prop) [Decidable p] : zH r c (if p then bP s 0 else s) := by
 split
 ·exact ⟨h.1.renew 0, IC s 0⟩
 ·exact h
theorem adZ (r c : Int) : zH r c (uM r c) := ⟨WN r c, adX _⟩
end Gs
end
section
namespace Go.Proofs.YtjdoakbadehicaaGreatDoor
open Go Go.Sh
set_option maxRecDepth 100000
theorem PH {bk : Nat} {st why tn : Int} {x0 x4 x5 : Value} {w : World} (aC : Z.h w bk #[x0, Z.i st, Z.i why, Z.i tn, x4, x5] 95) (hst : 1 ≤ st ∧ st ≤ 3)  :
    oX 63 #[.pointer (some ⟨bk, 1, none⟩)] w fun e w' => ∃ v, e = .returned v ∧ ∃ (q : Bool) (why tn : Int), v = .bool q ∧ Z.h w' bk #[x0, Z.i 1, Z.i why, Z.i tn, x4, x5] 95 ∧ aB (· = bk) w w' := by
 refine F63.calls ?_
 unfold F63
 have hF : aB (· = bk) w w := Fr.refl _ _ _
 refine dB ?_
 refine Z.f 0 ?_
 refine Z.l aC ?_
 refine az (jO _ _ _ _ _) (fun h1 => ?_) (fun h1 => ?_)
 refine aV (aV ?_)
 refine dB ?_
 refine aV ?_
 refine Z.f 0 ?_
 refine aV ?_
 refine Z.l aC ?_
 refine aV ?_
 refine az (jO _ _ _ _ _) (fun h2 => ?_) (fun h2 => ?_)
 refine aU (aK ?_)
 (have e : st = 1 := (by omega); subst e; exact ⟨_, rfl, _, _, _, rfl, aC, hF⟩)
 refine aU (aH ?_)
 refine aI (xZ aC) (fun v4 w4 D4 => ?_)
 obtain ⟨t16, N4, U4⟩ := D4
 replace aC := N4
 replace hF := hF.go U4 (fun i _ h => h)
 exact ⟨_, rfl, _, _, _, rfl, aC, hF⟩
 refine aP (aP (aP (aP (aP (aQ (aH ?_))))))
 refine aI (xZ aC) (fun v6 w6 D6 => ?_)
 obtain ⟨t16, N6, U6⟩ := D6
 replace aC := N6
 replace hF := hF.go U6 (fun i _ h => h)
 exact ⟨_, rfl, _, _, _, rfl, aC, hF⟩
theorem Ug {bk : Nat} {st why tn : Int} {x0 x4 x5 : Value} {w : World} (aC : Z.h w bk #[x0, Z.i st, Z.i why, Z.i tn, x4, x5] 95) (hst : 1 ≤ st ∧ st ≤ 3)  :
    oX 47 #[.pointer (some ⟨bk, 1, none⟩)] w fun e w' => ∃ v, e = .returned v ∧ ∃ (q : Bool) (st why tn : Int), v = .bool q ∧ (1 ≤ st ∧ st ≤ 3) ∧ Z.h w' bk #[x0, Z.i st, Z.i why, Z.i tn, x4, x5] 95 ∧ aB (· = bk) w w' := by
 refine F47.calls ?_
 unfold F47
 have hF : aB (· = bk) w w := Fr.refl _ _ _
 refine dB ?_
 refine Z.f 0 ?_
 refine Z.l aC ?_
 refine az (jO _ _ _ _ _) (fun h1 => ?_) (fun h1 => ?_)
 refine aK ?_
 exact ⟨_, rfl, _, _, _, _, rfl, hst, aC, hF⟩
 refine aH ?_
 refine aI (xZ aC) (fun v3 w3 D3 => ?_)
 obtain ⟨t9, N3, U3⟩ := D3
 replace aC := N3
 replace hF := hF.go U3 (fun i _ h => h)
 exact ⟨_, rfl, _, _, _, _, rfl, (by decide : (1 : Int) ≤ 1 ∧ (1 : Int) ≤ 3), aC, hF⟩
theorem VI {bk : Nat} {st why tn : Int} {x0 x4 x5 : Value} {w : World} (aC : Z.h w bk #[x0, Z.i st, Z.i why, Z.i tn, x4, x5] 95) {y : Int} (hs : st = 1) :
    oX 51 #[.pointer (some ⟨bk, 1, none⟩), Z.i y] w fun e w' => ∃ v, e = .returned v ∧ v = Z.i y ∧ ∃ (st why tn : Int), (1 ≤ st ∧ st ≤ 3) ∧ Z.h w' bk #[x0, Z.i st, Z.i why, Z.i tn, x4, x5] 95 ∧ aB (· = bk) w w' := by
 refine F51.calls ?_
 unfold F51
 have hF : aB (· = bk) w w := Fr.refl _ _ _
 refine aA (nP aC) (fun w1 U1 => ?_)
 rw [if_pos hs]
 refine jQ (jO _ _ _ _ _) (fun h => h rfl) ?_
 refine aH ?_
 refine bQ (fun g w' => ∃ (st : Int) (why : Int) (tn : Int), (Z.h w' bk #[x0, Z.i st, Z.i why, Z.i tn, x4, x5] 95) ∧ ((1 ≤ st ∧ st ≤ 3)) ∧ (aB (· = bk) w w')) (fun J1 hJ1 => ?_) (fun gJ1 jY hI => ?_)
 refine az (jO _ _ _ _ _) (fun h2 => ?_) (fun h2 => ?_)
 refine aK ?_
 replace aC := U1.af aC
 refine aI (FP aC (s2 := 3) (y2 := y)) (fun v3 w3 D3 => ?_)
 obtain ⟨t15, N3, U3⟩ := D3
 replace aC := N3
 replace hF := hF.go0 U1
 replace hF := hF.go U3 (fun i _ h => h)
 refine hJ1 _ _ ?_
 exact ⟨_, _, _, aC, (by omega), hF⟩
 refine aH ?_
 refine hJ1 _ _ ?_
 replace aC := U1.af aC
 replace hF := hF.go0 U1
 exact ⟨_, _, _, aC, (by omega), hF⟩
 replace aC := U1.af aC
 replace hF := hF.go0 U1
 obtain ⟨st, why, tn, aC, hst, hF⟩ := hI
 exact ⟨_, rfl, rfl, _, _, _, hst, aC, hF⟩
theorem aaK {r c cur : Int} {A : Option Addr} {n cp bp B0 : Nat} {cs : List Gs.Cell} {w : World} (ag : Z.h w bp #[Z.i r, Z.i c, .slice A n cp, Z.i cur] 91) (ae : Own B0 w 37 5 (.slice A n cp) (rows Gs.cv cs)) (hW : Gs.Pw r c n cs cur) {k : Int} :
    oX 50 #[Z.p bp, Z.i k] w fun e w' => ∃ v, e = .returned v ∧ ∃ (q : Bool) (cur1 : Int), v = .bool q ∧ Gs.Pw r c n cs cur1 ∧ (q = true → 2 ≤ k ∧ k ≤ 9) ∧ (q = false → cur1 = cur ∧ ¬ (2 ≤ k ∧ k ≤ 9)) ∧ Z.h w' bp #[Z.i r, Z.i c, .slice A n cp, Z.i cur1] 91 ∧ aB (· = bp) w w' := by
 refine F50.calls ?_
 unfold F50
 obtain ⟨hn, hcw, hcu, hp, hN, hb⟩ := id hW; have hrc := hW.rc
 have hF : aB (· = bp) w w := Fr.refl _ _ _
 refine bQ (fun g w' => ∃ (cur1 : Int), (Z.h w' bp #[Z.i r, Z.i c, .slice A n cp, Z.i cur1] 91) ∧ (Gs.Pw r c n cs cur1) ∧ (2 ≤ k ∧ k ≤ 9) ∧ (aB (· = bp) w w')) (fun J1 hJ1 => ?_) (fun gJ1 jY hI => ?_)
 refine az (dh _ _ _ _ _) (fun h1 => ?_) (fun h1 => ?_)
 refine aK ?_
 refine aI (FO ag ae hW) (fun v2 w2 D2 => ?_)
 obtain ⟨cur, rfl, hW, N2, U2⟩ := D2
 obtain ⟨hn, hcw, hcu, hp, hN, hb⟩ := id hW
 replace ag := N2
 replace hF := hF.go U2 (fun i _ h => h)
 refine hJ1 _ _ ?_
 exact ⟨_, ag, hW, (by omega), hF⟩
 refine aH ?_
 refine az (dh _ _ _ _ _) (fun h3 => ?_) (fun h3 => ?_)
 refine aK ?_
 refine aI (Vt ag ae hW) (fun v4 w4 D4 => ?_)
 obtain ⟨cur, rfl, hW, N4, U4⟩ := D4
 obtain ⟨hn, hcw, hcu, hp, hN, hb⟩ := id hW
 replace ag := N4
 replace hF := hF.go U4 (fun i _ h => h)
 refine hJ1 _ _ ?_
 exact ⟨_, ag, hW, (by omega), hF⟩
 refine aH ?_
 refine az (dh _ _ _ _ _) (fun h5 => ?_) (fun h5 => ?_)
 refine aK ?_
 refine aI (PD ag ae hW) (fun v6 w6 D6 => ?_)
 obtain ⟨cur, rfl, hW, N6, U6⟩ := D6
 obtain ⟨hn, hcw, hcu, hp, hN, hb⟩ := id hW
 replace ag := N6
 replace hF := hF.go U6 (fun i _ h => h)
 refine hJ1 _ _ ?_
 exact ⟨_, ag, hW, (by omega), hF⟩
 refine aH ?_
 refine az (dh _ _ _ _ _) (fun h7 => ?_) (fun h7 => ?_)
 refine aK ?_
 refine aI (Ud ag ae hW) (fun v8 w8 D8 => ?_)
 obtain ⟨cur, rfl, hW, N8, U8⟩ := D8
 obtain ⟨hn, hcw, hcu, hp, hN, hb⟩ := id hW
 replace ag := N8
 replace hF := hF.go U8 (fun i _ h => h)
 refine hJ1 _ _ ?_
 exact ⟨_, ag, hW, (by omega), hF⟩
 refine aH ?_
 refine az (dh _ _ _ _ _) (fun h9 => ?_) (fun h9 => ?_)
 refine aK ?_
 refine aI (zt ag ae hW (i := -1) (j := 0) (by decide) (by decide)) (fun v10 w10 D10 => ?_)
 obtain ⟨cur, rfl, hW, N10, aX⟩ := D10
 obtain ⟨hn, hcw, hcu, hp, hN, hb⟩ := id hW
 replace ag := N10
 replace hF := hF.go aX (fun i _ h => h)
 refine hJ1 _ _ ?_
 exact ⟨_, ag, hW, (by omega), hF⟩
 refine aH ?_
 refine az (dh _ _ _ _ _) (fun h11 => ?_) (fun h11 => ?_)
 refine aK ?_
 refine aI (zt ag ae hW (i := 1) (j := 0) (by decide) (by decide)) (fun v12 w12 D12 => ?_)
 obtain ⟨cur, rfl, hW, N12, bW⟩ := D12
 obtain ⟨hn, hcw, hcu, hp, hN, hb⟩ := id hW
 replace ag := N12
 replace hF := hF.go bW (fun i _ h => h)
 refine hJ1 _ _ ?_
 exact ⟨_, ag, hW, (by omega), hF⟩
 refine aH ?_
 refine az (dh _ _ _ _ _) (fun h13 => ?_) (fun h13 => ?_)
 refine aK ?_
 refine aI (zt ag ae hW (i := 0) (j := -1) (by decide) (by decide)) (fun v14 rF D14 => ?_)
 obtain ⟨cur, rfl, hW, N14, bZ⟩ := D14
 obtain ⟨hn, hcw, hcu, hp, hN, hb⟩ := id hW
 replace ag := N14
 replace hF := hF.go bZ (fun i _ h => h)
 refine hJ1 _ _ ?_
 exact ⟨_, ag, hW, (by omega), hF⟩
 refine aH ?_
 refine az (dh _ _ _ _ _) (fun h15 => ?_) (fun h15 => ?_)
 refine aK ?_
 refine aI (zt ag ae hW (i := 0) (j := 1) (by decide) (by decide)) (fun v16 w16 D16 => ?_)
 obtain ⟨cur, rfl, hW, N16, bU⟩ := D16
 obtain ⟨hn, hcw, hcu, hp, hN, hb⟩ := id hW
 replace ag := N16
 replace hF := hF.go bU (fun i _ h => h)
 refine hJ1 _ _ ?_
 exact ⟨_, ag, hW, (by omega), hF⟩
 refine aH ?_
 exact ⟨_, rfl, _, _, rfl, hW, (fun h => by cases h), (fun _ => ⟨rfl, by omega⟩), ag, hF⟩
 obtain ⟨cur1, ag, hW1, hk9, hF⟩ := hI
 exact ⟨_, rfl, _, _, rfl, hW1, (fun _ => hk9), (fun h => by cases h), ag, hF⟩
theorem aaL {r c cur : Int} {A : Option Addr} {n cp bp B0 : Nat} {cs : List Gs.Cell} {bk bs : Nat} {st why tn last : Int} {ins : Bool} {r0 c0 r1 c1 wh : Int} {w : World} (ag : Z.h w bp #[Z.i r, Z.i c, .slice A n cp, Z.i cur] 91) (ae : Own B0 w 37 5 (.slice A n cp) (rows Gs.cv cs)) (hW : Gs.Pw r c n cs cur) (aC : Z.h w bk #[Z.p bs, Z.i st, Z.i why, Z.i tn, .bool ins, Z.u last] 95) (ax : Z.h w bs #[Z.i r0, Z.i c0, Z.i r1, Z.i c1, Z.i wh, Z.p bp] 89) {k x : Int} (hxb : 0 ≤ x ∧ x ≤ 255) :
    oX 52 #[Z.p bk, .agg #[Z.i k, Z.u x]] w fun e w' => ∃ v, e = .returned v ∧ ∃ (q : Int) (c1 : List Gs.Cell) (cur1 : Int) (ins1 : Bool), v = Z.i q ∧ Gs.Pw r c n c1 cur1 ∧ Gs.ER k q cs c1 cur cur1 ∧ Z.h w' bp #[Z.i r, Z.i c, .slice A n cp, Z.i cur1] 91 ∧ Own B0 w' 37 5 (.slice A n cp) (rows Gs.cv c1) ∧ Z.h w' bk #[Z.p bs, Z.i st, Z.i why, Z.i tn, .bool ins1, Z.u last] 95 ∧ aB (fun k => (aG (.slice A n cp) k ∨ k = bp) ∨ k = bk) w w' := by
 refine YO.calls ?_
 unfold YO
 obtain ⟨hn, hcw, hcu, hp, hN, hb⟩ := id hW; have hrc := hW.rc
 have hF : aB (fun k => (aG (.slice A n cp) k ∨ k = bp) ∨ k = bk) w w := Fr.refl _ _ _
 refine Z.x (#[Z.i k, Z.u x]) (fun b1 w1 e1 ah _ U1 => ?_)
 refine dB ?_
 refine Z.f 0 ?_
 replace aC := U1.af aC
 refine Z.l aC ?_
 replace ax := U1.af ax
 refine aA (fJ ax) (fun w2 U2 => ?_)
 refine bQ (fun g w' => ∃ (c1 : List Gs.Cell) (cur1 : Int) (ins1 : Bool), (Own B0 w' 37 5 (.slice A n cp) (rows Gs.cv c1)) ∧ (Z.h w' bp #[Z.i r, Z.i c, .slice A n cp, Z.i cur1] 91) ∧ (Z.h w' bk #[Z.p bs, Z.i st, Z.i why, Z.i tn, .bool ins1, Z.u last] 95) ∧ (Gs.Pw r c n c1 cur1) ∧ (Gs.ER k 0 cs c1 cur cur1) ∧ (aB (fun k => (aG (.slice A n cp) k ∨ k = bp) ∨ k = bk) w w')) (fun J1 hJ1 => ?_) (fun gJ1 jY hI => ?_)
 refine Z.f 0 ?_
 replace ah := U2.af ah
 refine Z.l ah ?_
 refine az (dh _ _ _ _ _) (fun h3 => ?_) (fun h3 => ?_)
 refine aK ?_
 refine dV (S := no) (fun w4 U4 => ?_)
 refine Z.g 1 ?_
 replace ah := U4.af ah
 refine Z.m ah ?_
 refine fM ?_
 refine Z.g 4 ?_
 replace aC := U4.af (U2.af aC)
 refine Z.m aC ?_
 refine aJ (fun w5 U5 => ?_)
 replace ae := (((ae.ai U1).ai U2).ai U4).ai U5
 replace ag := U5.af (U4.af (U2.af (U1.af ag)))
 refine aI (DT ag ae hW (x := x) (ins := ins) hxb) (fun v6 w6 D6 => ?_)
 obtain ⟨e22, c1, cur1, rfl, hW1, hm22, M6, N6, U6⟩ := D6
 have aN := ae
 replace ae := N6
 replace aC := U5.af aC
 replace aC := U6.get aC (fun hs => Or.elim (show aG _ _ ∨ _ = _ from hs) (fun h => Own.aT aN aC (by decide) _ h rfl) (fun hb => absurd hb (by exact dQ (by assumption) (by assumption) (by decide))))
 replace ag := M6
 replace hF := (((hF.go0 U1).go0 U2).go0 U4).go0 U5
 replace hF := hF.go U6 (fun i h hs => Or.elim (show aG _ _ ∨ _ = _ from hs) (fun hs => .inl (.inl hs)) (fun hb => by (subst hb; omega)))
 clear aN
 refine aJ (fun w7 U7 => ?_)
 replace ae := ae.ai U7
 replace aC := U7.af aC
 replace ag := U7.af ag
 replace hF := hF.go0 U7
 exact ⟨_, rfl, _, _, _, _, rfl, hW1, .inl ⟨by omega, (by exact hm22)⟩, ag, ae, aC, hF⟩
 refine aH ?_
 refine az (dh _ _ _ _ _) (fun h9 => ?_) (fun h9 => ?_)
 refine aK ?_
 replace ae := (ae.ai U1).ai U2
 replace ag := U2.af (U1.af ag)
 refine aI (VG ag ae hW) (fun v10 w10 D10 => ?_)
 obtain ⟨e26, c1, cur1, rfl, hW1, hm26, M10, N10, aX⟩ := D10
 have aN := ae
 replace ae := N10
 replace aC := U2.af aC
 replace aC := aX.get aC (fun hs => Or.elim (show aG _ _ ∨ _ = _ from hs) (fun h => Own.aT aN aC (by decide) _ h rfl) (fun hb => absurd hb (by exact dQ (by assumption) (by assumption) (by decide))))
 replace ag := M10
 replace hF := (hF.go0 U1).go0 U2
 replace hF := hF.go aX (fun i h hs => Or.elim (show aG _ _ ∨ _ = _ from hs) (fun hs => .inl (.inl hs)) (fun hb => by (subst hb; omega)))
 clear aN
 exact ⟨_, rfl, _, _, _, _, rfl, hW1, .inl ⟨by omega, (by exact hm26)⟩, ag, ae, aC, hF⟩
 refine aH ?_
 refine az (dh _ _ _ _ _) (fun h12 => ?_) (fun h12 => ?_)
 refine aK ?_
 replace ae := (ae.ai U1).ai U2
 replace ag := U2.af (U1.af ag)
 refine aI (Kt ag ae hW) (fun v13 ve D13 => ?_)
 obtain ⟨q30, rfl, M13, N13, dC⟩ := D13
 have aN := ae
 replace ae := N13
 replace aC := U2.af aC
 replace aC := dC.get aC (fun hs => Or.elim (show aG _ _ ∨ _ = _ from hs) (fun h => Own.aT aN aC (by decide) _ h rfl) (fun hb => absurd hb (by exact dQ (by assumption) (by assumption) (by decide))))
 replace ag := M13
 replace hF := (hF.go0 U1).go0 U2
 replace hF := hF.go dC (fun i h hs => Or.elim (show aG _ _ ∨ _ = _ from hs) (fun hs => .inl (.inl hs)) (fun hb => by (subst hb; omega)))
 clear aN
 have hW := hW.sS
 refine hJ1 _ _ ?_
 exact ⟨_, _, _, ae, ag, aC, hW, (.inr (.inl ⟨by assumption, rfl, fun h => h.sS⟩)), hF⟩
 refine aH ?_
 refine az (dh _ _ _ _ _) (fun h14 => ?_) (fun h14 => ?_)
 refine aK ?_
 replace ae := (ae.ai U1).ai U2
 replace ag := U2.af (U1.af ag)
 refine aI (PG ag ae hW) (fun v15 ut D15 => ?_)
 obtain ⟨e34, c1, cur1, rfl, hW1, hm34, M15, N15, bT⟩ := D15
 have aN := ae
 replace ae := N15
 replace aC := U2.af aC
 replace aC := bT.get aC (fun hs => Or.elim (show aG _ _ ∨ _ = _ from hs) (fun h => Own.aT aN aC (by decide) _ h rfl) (fun hb => absurd hb (by exact dQ (by assumption) (by assumption) (by decide))))
 replace ag := M15
 replace hF := (hF.go0 U1).go0 U2
 replace hF := hF.go bT (fun i h hs => Or.elim (show aG _ _ ∨ _ = _ from hs) (fun hs => .inl (.inl hs)) (fun hb => by (subst hb; omega)))
 clear aN
 exact ⟨_, rfl, _, _, _, _, rfl, hW1, .inl ⟨by omega, (by exact hm34)⟩, ag, ae, aC, hF⟩
 refine aH ?_
 refine az (dh _ _ _ _ _) (fun h17 => ?_) (fun h17 => ?_)
 refine aK ?_
 refine dB ?_
 refine Z.f 4 ?_
 replace aC := U2.af aC
 refine Z.l aC ?_
 refine ak (BV _) ?_
 refine dB ?_
 refine Z.f 4 ?_
 refine Z.s aC (fun xY aC _ dR => ?_)
 replace ae := (ae.ai U1).ai U2
 replace ae := ae.aF dR (Own.aT ae (by assumption) (by decide))
 replace ag := U2.af (U1.af ag)
 replace ag := dR.au ag (by exact dQ (by assumption) (by assumption) (by decide))
 replace hF := (hF.go0 U1).go0 U2
 replace hF := hF.go dR (fun i _ h => .inr h)
 refine hJ1 _ _ ?_
 exact ⟨_, _, _, ae, ag, aC, hW, (.inr (.inr ⟨by omega, rfl, rfl, rfl⟩)), hF⟩
 refine aH ?_
 refine az (dh _ _ _ _ _) (fun h19 => ?_) (fun h19 => ?_)
 refine aK ?_
 refine dB ?_
 refine Z.f 4 ?_
 replace aC := U2.af aC
 refine Z.l aC ?_
 replace ae := (ae.ai U1).ai U2
 replace ag := U2.af (U1.af ag)
 refine aI (VH ag ae hW (ins := ins)) (fun v20 xM D20 => ?_)
 obtain ⟨e52, c1, cur1, rfl, hW1, hm52, M20, N20, dF⟩ := D20
 have aN := ae
 replace ae := N20
 replace aC := dF.get aC (fun hs => Or.elim (show aG _ _ ∨ _ = _ from hs) (fun h => Own.aT aN aC (by decide) _ h rfl) (fun hb => absurd hb (by exact dQ (by assumption) (by assumption) (by decide))))
 replace ag := M20
 replace hF := (hF.go0 U1).go0 U2
 replace hF := hF.go dF (fun i h hs => Or.elim (show aG _ _ ∨ _ = _ from hs) (fun hs => .inl (.inl hs)) (fun hb => by (subst hb; omega)))
 clear aN
 exact ⟨_, rfl, _, _, _, _, rfl, hW1, .inl ⟨by omega, (by exact hm52)⟩, ag, ae, aC, hF⟩
 refine aH ?_
 refine az (dh _ _ _ _ _) (fun h22 => ?_) (fun h22 => ?_)
 refine aK ?_
 refine dB ?_
 refine Z.f 4 ?_
 replace aC := U2.af aC
 refine Z.l aC ?_
 replace ae := (ae.ai U1).ai U2
 replace ag := U2.af (U1.af ag)
 refine aI (Uf ag ae hW (ins := ins)) (fun v23 Jl D23 => ?_)
 obtain ⟨e60, c1, cur1, rfl, hW1, hm60, M23, N23, jD⟩ := D23
 have aN := ae
 replace ae := N23
 replace aC := jD.get aC (fun hs => Or.elim (show aG _ _ ∨ _ = _ from hs) (fun h => Own.aT aN aC (by decide) _ h rfl) (fun hb => absurd hb (by exact dQ (by assumption) (by assumption) (by decide))))
 replace ag := M23
 replace hF := (hF.go0 U1).go0 U2
 replace hF := hF.go jD (fun i h hs => Or.elim (show aG _ _ ∨ _ = _ from hs) (fun hs => .inl (.inl hs)) (fun hb => by (subst hb; omega)))
 clear aN
 exact ⟨_, rfl, _, _, _, _, rfl, hW1, .inl ⟨by omega, (by exact hm60)⟩, ag, ae, aC, hF⟩
 refine aH ?_
 refine hJ1 _ _ ?_
 replace ae := (ae.ai U1).ai U2
 replace ag := U2.af (U1.af ag)
 replace hF := (hF.go0 U1).go0 U2
 replace aC := U2.af aC
 exact ⟨_, _, _, ae, ag, aC, hW, (.inr (.inr ⟨by omega, rfl, rfl, rfl⟩)), hF⟩
 replace ae := (ae.ai U1).ai U2
 replace ag := U2.af (U1.af ag)
 replace hF := (hF.go0 U1).go0 U2
 replace aC := U2.af aC
 obtain ⟨c1, cur1, ins1, ae, ag, aC, hW1, her, hF⟩ := hI
 exact ⟨_, rfl, _, _, _, _, rfl, hW1, her, ag, ae, aC, hF⟩
theorem Az {r c cur : Int} {A : Option Addr} {n cp bp B0 : Nat} {cs : List Gs.Cell} {bk bs : Nat} {st why tn last : Int} {ins : Bool} {r0 c0 r1 c1 wh : Int} {w : World} (ag : Z.h w bp #[Z.i r, Z.i c, .slice A n cp, Z.i cur] 91) (ae : Own B0 w 37 5 (.slice A n cp) (rows Gs.cv cs)) (hW : Gs.Pw r c n cs cur) (aC : Z.h w bk #[Z.p bs, Z.i st, Z.i why, Z.i tn, .bool ins, Z.u last] 95) (ax : Z.h w bs #[Z.i r0, Z.i c0, Z.i r1, Z.i c1, Z.i wh, Z.p bp] 89) {k x : Int} (hxb : 0 ≤ x ∧ x ≤ 255) (hk17 : k ≠ 17) (hst : 1 ≤ st ∧ st ≤ 3)  :
    oX 18 #[Z.p bk, .agg #[Z.i k, Z.u x]] w fun e w' => ∃ v, e = .returned v ∧ ∃ (e st' why' tn' : Int) (ins' : Bool) (c1 : List Gs.Cell) (cur1 : Int), v = .tuple #[.bool false, Z.i e] ∧ (1 ≤ st' ∧ st' ≤ 3) ∧ Gs.Pw r c n c1 cur1 ∧ Gs.PR k e st cs c1 cur ∧ Z.h w' bp #[Z.i r, Z.i c, .slice A n cp, Z.i cur1] 91 ∧ Own B0 w' 37 5 (.slice A n cp) (rows Gs.cv c1) ∧ Z.h w' bk #[Z.p bs, Z.i st', Z.i why', Z.i tn', .bool ins', Z.u last] 95 ∧ aB (fun k => (aG (.slice A n cp) k ∨ k = bp) ∨ k = bk) w w' := by
 refine Nh.calls ?_
 unfold Nh
 obtain ⟨hn, hcw, hcu, hp, hN, hb⟩ := id hW; have hrc := hW.rc
 have hF : aB (fun k => (aG (.slice A n cp) k ∨ k = bp) ∨ k = bk) w w := Fr.refl _ _ _
 refine Z.x (#[Z.i k, Z.u x]) (fun b1 w1 e1 ah _ U1 => ?_)
 have jJ : bp ≠ b1 := by have := aj ag; omega
 refine Z.f 0 ?_
 refine Z.l ah ?_
 refine az (dh _ _ _ _ _) (fun h2 => ?_) (fun h2 => ?_)
 refine aK ?_
 refine dB ?_
 refine Z.f 1 ?_
 replace aC := U1.af aC
 refine aI (Ug aC hst) (fun v3 w3 D3 => ?_)
 obtain ⟨q13, st1, why1, tn1, rfl, hst1, N3, U3⟩ := D3
 replace ae := ae.ai U1
 replace ae := ae.aF U3 (Own.aT ae (by assumption) (by decide))
 replace ag := U1.af ag
 replace ag := U3.au ag (by exact dQ (by assumption) (by assumption) (by decide))
 replace aC := N3
 replace hF := hF.go0 U1
 replace hF := hF.go U3 (fun i _ h => .inr h)
 refine dB ?_
 refine Z.f 4 ?_
 refine Z.s aC (fun w4 aC _ U4 => ?_)
 replace ae := ae.aF U4 (Own.aT ae (by assumption) (by decide))
 replace ag := U4.au ag (by exact dQ (by assumption) (by assumption) (by decide))
 replace hF := hF.go U4 (fun i _ h => .inr h)
 exact ⟨_, rfl, _, _, _, _, _, _, _, rfl, hst1, hW, Gs.PR.keep (by omega), ag, ae, aC, hF⟩
 refine aH ?_
 refine dB ?_
 refine Z.f 1 ?_
 replace aC := U1.af aC
 refine aA (nP aC) (fun w6 U6 => ?_)
 obtain ⟨em, hem⟩ : ∃ em : Int, em = (if st = 1 then 0 else 40) := ⟨_, rfl⟩
 rw [← hem]
 have hem2 : (em = 0 → st = 1) ∧ (st = 1 → em = 0) := by subst hem; split <;> omega
 clear hem
 refine az (jO _ _ _ _ _) (fun h7 => ?_) (fun h7 => ?_)
 refine aK ?_
 replace ae := (ae.ai U1).ai U6
 replace ag := U6.af (U1.af ag)
 replace hF := (hF.go0 U1).go0 U6
 replace aC := U6.af aC
 exact ⟨_, rfl, _, _, _, _, _, _, _, rfl, hst, hW, Gs.PR.keep (by omega), ag, ae, aC, hF⟩
 refine aH ?_
 replace ah := U6.af ah
 refine Z.b 2 (#[Z.i k, Z.u x]) ah ?_
 refine eF (Ih hxb) (fun w9 U9 h9 => ?_) (fun w9 U9 h9 => ?_)
 simp only [Z.d, Z.c] at h9
 refine ak (jE) ?_
 refine aH ?_
 refine Z.f 0 ?_
 replace ah := U9.af ah
 refine Z.l ah ?_
 refine jQ (dh _ _ _ _ _) (hk17) ?_
 refine aH ?_
 refine dV (S := no) (fun w10 aX => ?_)
 refine fM ?_
 refine Z.g 0 ?_
 replace aC := aX.af (U9.af (U6.af aC))
 refine bI (fun w' hw' => by have aC := (Fr.jq hw').af aC; exact (kH (by kernel_rfl) aC (by rfl))) ?_
 refine Z.g 0 ?_
 replace ah := aX.af ah
 refine Z.m ah ?_
 refine aJ (fun nT bD => ?_)
 refine jy ?_
 replace ax := bD.af (aX.af (U9.af (U6.af (U1.af ax))))
 refine aA (fJ ax) (fun w12 bW => ?_)
 refine ⟨bW, ?_⟩
 refine aJ (fun ve dC => ?_)
 replace ae := ((((((ae.ai U1).ai U6).ai U9).ai aX).ai bD).ai bW).ai dC
 replace ag := dC.af (bW.af (bD.af (aX.af (U9.af (U6.af (U1.af ag))))))
 refine aI (aaK ag ae hW (k := k)) (fun v14 rF D14 => ?_)
 obtain ⟨q47, cur1, rfl, hW1, hy47, hz47, N14, bZ⟩ := D14
 replace ae := ae.aF bZ (Own.aT ae (by assumption) (by decide))
 replace aC := dC.af (bW.af (bD.af aC))
 replace aC := bZ.au aC (by exact dQ (by assumption) (by assumption) (by decide))
 replace ax := dC.af (bW.af ax)
 replace ax := bZ.au ax (by exact dQ (by assumption) (by assumption) (by decide))
 replace ag := N14
 replace hF := ((((((hF.go0 U1).go0 U6).go0 U9).go0 aX).go0 bD).go0 bW).go0 dC
 replace hF := hF.go bZ (fun i _ h => .inl (.inr h))
 refine aJ (fun ut bT => ?_)
 refine kL (fun h16 => ?_) (fun h16 => ?_)
 replace ae := ae.ai bT
 replace aC := bT.af aC
 replace ag := bT.af ag
 replace hF := hF.go0 bT
 exact ⟨_, rfl, _, _, _, _, _, _, _, rfl, hst, hW1, Gs.PR.keep (by have := hy47 (by assumption); omega), ag, ae, aC, hF⟩
 refine dV (S := (fun k => (aG (.slice A n cp) k ∨ k = bp) ∨ k = bk)) (fun xY dR => ?_)
 refine fM ?_
 refine Z.g 1 ?_
 obtain ⟨rfl, hk9⟩ := hz47 (by assumption)
 replace ah := dR.af (bT.af (bZ.au (dC.af (bW.af (bD.af ah))) (Ne.symm jJ)))
 refine bI (fun w' hw' => by have ah := (Fr.jq hw').af ah; exact (CE (n := 2) (cs' := #[Z.i k, Z.u x]) (by kernel_rfl) ah (Nat.le_of_ble_eq_true rfl) (by rfl))) ?_
 refine aJ (fun Ag eU => ?_)
 refine jy ?_
 replace ae := ((ae.ai bT).ai dR).ai eU
 replace aC := eU.af (dR.af (bT.af aC))
 replace ax := eU.af (dR.af (bT.af ax))
 replace ag := eU.af (dR.af (bT.af ag))
 refine aI (aaL ag ae hW aC ax hxb) (fun v20 xM D20 => ?_)
 replace hF := ((hF.go0 bT).go0 dR).go0 eU
 have aqN := hF.size
 obtain ⟨q53, c1, cur1, ins1, rfl, hW1, her53, ag, ae, aC, dF⟩ := D20
 replace hF := hF.go dF (fun i hi hs => by exact hs)
 refine ⟨dF, ?_⟩
 refine aJ (fun Cj dH => ?_)
 replace aC := dH.af aC
 refine aI (VI aC (hem2.1 (Classical.not_not.1 (by assumption)))) (fun v22 Gq D22 => ?_)
 obtain ⟨rfl, st1, why1, tn1, hst1, N22, eQ⟩ := D22
 replace ae := ae.ai dH
 replace ae := ae.aF eQ (Own.aT ae (by assumption) (by decide))
 replace ag := dH.af ag
 replace ag := eQ.au ag (by exact dQ (by assumption) (by assumption) (by decide))
 replace aC := N22
 replace hF := hF.go0 dH
 replace hF := hF.go eQ (fun i _ h => .inr h)
 refine aJ (fun Jl jD => ?_)
 replace ae := ae.ai jD
 replace aC := jD.af aC
 replace ag := jD.af ag
 replace hF := hF.go0 jD
 exact ⟨_, rfl, _, _, _, _, _, _, _, rfl, hst1, hW1, her53.pr, ag, ae, aC, hF⟩
 simp only [Z.d, Z.c] at h9
 refine ak (mY) ?_
 refine aK ?_
 replace ae := ((ae.ai U1).ai U6).ai U9
 replace ag := U9.af (U6.af (U1.af ag))
 replace hF := ((hF.go0 U1).go0 U6).go0 U9
 replace aC := U9.af (U6.af aC)
 exact ⟨_, rfl, _, _, _, _, _, _, _, rfl, hst, hW, Gs.PR.keep (by omega), ag, ae, aC, hF⟩
theorem W9 {s : Gs.gV} {pv : Option Addr} {bs : Nat} {w : World} (ax : Z.h w bs #[Z.i s.r0, Z.i s.c0, Z.i s.r1, Z.i s.c1, Z.i s.wh, .pointer pv] 89) (hz0 : Gs.aY s.r0 s.c0 ≠ 0) (hz1 : Gs.aY s.r1 s.c1 ≠ 0) :
    oX 44 #[Z.p bs] w fun e w' => ∃ v, e = .returned v ∧ ∃ bp g, Z.h w' bs #[Z.i (Gs.bP s 0).r0, Z.i (Gs.bP s 0).c0, Z.i (Gs.bP s 0).r1, Z.i (Gs.bP s 0).c1, Z.i (Gs.bP s 0).wh, Z.p bp] 89 ∧ w.heap.size ≤ bp ∧ Z.h w' bp #[Z.i (Gs.bP s 0).r, Z.i (Gs.bP s 0).c, .slice (some ⟨g, 0, none⟩) (Gs.bP s 0).cs.length (Gs.bP s 0).cs.length, Z.i (Gs.bP s 0).cur] 91 ∧ Own w.heap.size w' 37 5 (.slice (some ⟨g, 0, none⟩) (Gs.bP s 0).cs.length (Gs.bP s 0).cs.length) (rows Gs.cv (Gs.bP s 0).cs) ∧ aB (· = bs) w w' := by
 refine YR.calls ?_
 unfold YR
 have hF : aB (· = bs) w w := Fr.refl _ _ _
 refine aI (Cb ax hz0 hz1) (fun v1 w1 D1 => ?_)
 obtain ⟨bp, g, N1, gbp, ag, ae, U1⟩ := D1
 have qB : w.heap.size ≤ bp := by have := hF.size; omega
 replace ae := ae.mono (B' := w.heap.size) hF.size
 replace ax := N1
 replace hF := hF.go U1 (fun i _ h => h)
 exact ⟨_, rfl, bp, g, ax, qB, ag, ae, hF⟩
theorem acz {s : Gs.gV} {A : Option Addr} {n cp bp bs B0 : Nat} {bk : Nat} {st why tn last : Int} {ins : Bool} {w : World} (ax : Z.h w bs #[Z.i s.r0, Z.i s.c0, Z.i s.r1, Z.i s.c1, Z.i s.wh, Z.p bp] 89) (ag : Z.h w bp #[Z.i s.r, Z.i s.c, .slice A n cp, Z.i s.cur] 91) (ae : Own B0 w 37 5 (.slice A n cp) (rows Gs.cv s.cs)) (hS : Gs.Sw n s) (hB0 : B0 ≤ w.heap.size) (aC : Z.h w bk #[Z.p bs, Z.i st, Z.i why, Z.i tn, .bool ins, Z.u last] 95) {x : Int} (hst : st = 1) :
    oX 49 #[Z.p bk, Z.u x] w fun e w' => ∃ v, e = .returned v ∧ v = .tuple #[.bool true, Z.i 0] ∧ ∃ t' : Int, Z.h w' bk #[Z.p bs, Z.i 2, Z.i 0, Z.i t', .bool false, Z.u x] 95 ∧ ∃ (bp' : Nat) (A' : Option Addr) (n' cp' : Nat), Z.h w' bs #[Z.i (if x = 109 then Gs.bP s 0 else s).r0, Z.i (if x = 109 then Gs.bP s 0 else s).c0, Z.i (if x = 109 then Gs.bP s 0 else s).r1, Z.i (if x = 109 then Gs.bP s 0 else s).c1, Z.i (if x = 109 then Gs.bP s 0 else s).wh, Z.p bp'] 89 ∧ Z.h w' bp' #[Z.i (if x = 109 then Gs.bP s 0 else s).r, Z.i (if x = 109 then Gs.bP s 0 else s).c, .slice A' n' cp', Z.i (if x = 109 then Gs.bP s 0 else s).cur] 91 ∧ Own B0 w' 37 5 (.slice A' n' cp') (rows Gs.cv (if x = 109 then Gs.bP s 0 else s).cs) ∧ n' = (if x = 109 then Gs.bP s 0 else s).cs.length ∧ (bp' = bp ∨ w.heap.size ≤ bp') ∧ (∀ k, aG (.slice A' n' cp') k → aG (.slice A n cp) k ∨ w.heap.size ≤ k) ∧ aB (fun k => ((aG (.slice A n cp) k ∨ k = bp) ∨ k = bs) ∨ k = bk) w w' := by
 refine F49.calls ?_
 unfold F49
 have hW := hS.2
 obtain ⟨hn, hcw, hcu, hp, hN, hb⟩ := id hW
 have hF : aB (fun k => ((aG (.slice A n cp) k ∨ k = bp) ∨ k = bs) ∨ k = bk) w w := Fr.refl _ _ _
 refine dB ?_
 refine Z.f 1 ?_
 refine aI (Yo aC hst) (fun v1 w1 D1 => ?_)
 obtain ⟨rfl, t10, N1, U1⟩ := D1
 replace ae := ae.aF U1 (Own.aT ae (by assumption) (by decide))
 replace ax := U1.au ax (by exact dQ (by assumption) (by assumption) (by decide))
 replace ag := U1.au ag (by exact dQ (by assumption) (by assumption) (by decide))
 replace aC := N1
 replace hF := hF.go U1 (fun i _ h => .inr h)
 refine jQ (jO _ _ _ _ _) (fun h => h rfl) ?_
 refine aH ?_
 refine dB ?_
 refine Z.f 4 ?_
 refine Z.s aC (fun w2 aC _ U2 => ?_)
 replace ae := ae.aF U2 (Own.aT ae (by assumption) (by decide))
 replace ax := U2.au ax (by exact dQ (by assumption) (by assumption) (by decide))
 replace ag := U2.au ag (by exact dQ (by assumption) (by assumption) (by decide))
 replace hF := hF.go U2 (fun i _ h => .inr h)
 refine dB ?_
 refine Z.f 5 ?_
 refine Z.s aC (fun w3 aC _ U3 => ?_)
 replace ae := ae.aF U3 (Own.aT ae (by assumption) (by decide))
 replace ax := U3.au ax (by exact dQ (by assumption) (by assumption) (by decide))
 replace ag := U3.au ag (by exact dQ (by assumption) (by assumption) (by decide))
 replace hF := hF.go U3 (fun i _ h => .inr h)
 refine bQ (fun g w' => ∃ (bp1 : Nat) (A1 : Option Addr) (n1 : Nat) (cp1 : Nat), (Z.h w' bk #[Z.p bs, Z.i 2, Z.i 0, Z.i t10, .bool false, Z.u x] 95) ∧ (Z.h w' bs #[Z.i (if x = 109 then Gs.bP s 0 else s).r0, Z.i (if x = 109 then Gs.bP s 0 else s).c0, Z.i (if x = 109 then Gs.bP s 0 else s).r1, Z.i (if x = 109 then Gs.bP s 0 else s).c1, Z.i (if x = 109 then Gs.bP s 0 else s).wh, Z.p bp1] 89) ∧ (Z.h w' bp1 #[Z.i (if x = 109 then Gs.bP s 0 else s).r, Z.i (if x = 109 then Gs.bP s 0 else s).c, .slice A1 n1 cp1, Z.i (if x = 109 then Gs.bP s 0 else s).cur] 91) ∧ (Own B0 w' 37 5 (.slice A1 n1 cp1) (rows Gs.cv (if x = 109 then Gs.bP s 0 else s).cs)) ∧ (n1 = (if x = 109 then Gs.bP s 0 else s).cs.length) ∧ (bp1 = bp ∨ w.heap.size ≤ bp1) ∧ (∀ k, aG (.slice A1 n1 cp1) k → aG (.slice A n cp) k ∨ w.heap.size ≤ k) ∧ (aB (fun k => ((aG (.slice A n cp) k ∨ k = bp) ∨ k = bs) ∨ k = bk) w w')) (fun J1 hJ1 => ?_) (fun gJ1 jY hI => ?_)
 refine az (dh _ _ _ _ _) (fun h4 => ?_) (fun h4 => ?_)
 refine aK ?_
 refine dB ?_
 refine Z.f 0 ?_
 refine Z.l aC ?_
 refine aI (W9 ax hS.1.1 hS.1.2) (fun v5 w5 D5 => ?_)
 obtain ⟨bp2, g2, N5, gbp2, nR, fQ, U5⟩ := D5
 have BN : w.heap.size ≤ bp2 := by have := hF.size; omega
 replace fQ := fQ.mono (B' := w.heap.size) hF.size
 replace aC := U5.au aC (by exact dQ (by assumption) (by assumption) (by decide))
 replace ax := N5
 replace hF := hF.go U5 (fun i _ h => .inl (.inr h))
 refine hJ1 _ _ ?_
 rw [show (if x = 109 then Gs.bP s 0 else s) = Gs.bP s 0 from if_pos (by assumption)]; exact ⟨bp2, some ⟨g2, 0, none⟩, _, _, aC, ax, nR, fQ.mono hB0, rfl, .inr BN, (fun k hk => .inr (Own.ge fQ hk).1), hF⟩
 refine aH ?_
 refine hJ1 _ _ ?_
 rw [show (if x = 109 then Gs.bP s 0 else s) = s from if_neg (by assumption)]; exact ⟨bp, A, n, cp, aC, ax, ag, ae, hn, .inl rfl, (fun k hk => .inl hk), hF⟩
 obtain ⟨bp1, A1, n1, cp1, aC, ax, ag, ae, hn1, hbp1, hov1, hF⟩ := hI
 exact ⟨_, rfl, rfl, _, aC, bp1, A1, n1, cp1, ax, ag, ae, hn1, hbp1, hov1, hF⟩
theorem Fb {bk bs : Nat} {st why tn last : Int} {ins : Bool} {q : Gs.wu} {w : World} (aC : Z.h w bk #[Z.p bs, Z.i st, Z.i why, Z.i tn, .bool ins, Z.u last] 95) (hst : 1 ≤ st ∧ st ≤ 3)  :
    oX 26 #[Z.p bk, .agg (Gs.re q).toArray] w fun e w' => ∃ v, e = .returned v ∧ ∃ (st' why' tn' last' : Int) (ins' : Bool), Z.h w' bk #[Z.p bs, Z.i st', Z.i why', Z.i tn', .bool ins', Z.u last'] 95 ∧ (1 ≤ st' ∧ st' ≤ 3) ∧ (q.rs = true → st' = 1 ∧ ins' = false) ∧ (q.rs = false → st' = st ∧ ins' = ins) ∧ aB (· = bk) w w' := by
 refine F26.calls ?_
 unfold F26
 have hF : aB (· = bk) w w := Fr.refl _ _ _
 refine Z.x ((Gs.re q).toArray) (fun b1 w1 e1 ah _ U1 => ?_)
 refine Z.f 1 ?_
 refine oJ (kH (by kernel_rfl) ah (by rfl)) (fun h2 => ?_) (fun h2 => ?_)
 refine aK ?_
 refine dB ?_
 refine Z.f 1 ?_
 replace aC := U1.af aC
 refine aI (PH aC hst) (fun v3 w3 D3 => ?_)
 obtain ⟨q9, why1, tn1, rfl, N3, U3⟩ := D3
 replace aC := N3
 replace hF := hF.go0 U1
 replace hF := hF.go U3 (fun i _ h => h)
 refine dB ?_
 refine Z.f 4 ?_
 refine Z.s aC (fun w4 aC _ U4 => ?_)
 replace hF := hF.go U4 (fun i _ h => h)
 refine dB ?_
 refine Z.f 5 ?_
 refine Z.s aC (fun w5 aC _ U5 => ?_)
 replace hF := hF.go U5 (fun i _ h => h)
 exact ⟨_, rfl, _, _, _, _, _, aC, (by decide : (1 : Int) ≤ 1 ∧ (1 : Int) ≤ 3), (fun _ => ⟨rfl, rfl⟩), (fun h => by simp_all), hF⟩
 refine aH ?_
 replace aC := U1.af aC
 replace hF := hF.go0 U1
 exact ⟨_, rfl, _, _, _, _, _, aC, hst, (fun h => by simp_all), (fun _ => ⟨rfl, rfl⟩), hF⟩
theorem Oy {s : Gs.gV} {A : Option Addr} {n cp bp bs B0 : Nat} {bk : Nat} {st why tn last : Int} {ins : Bool} {w : World} (ax : Z.h w bs #[Z.i s.r0, Z.i s.c0, Z.i s.r1, Z.i s.c1, Z.i s.wh, Z.p bp] 89) (ag : Z.h w bp #[Z.i s.r, Z.i s.c, .slice A n cp, Z.i s.cur] 91) (ae : Own B0 w 37 5 (.slice A n cp) (rows Gs.cv s.cs)) (hS : Gs.Sw n s) (hB0 : B0 ≤ w.heap.size) (aC : Z.h w bk #[Z.p bs, Z.i st, Z.i why, Z.i tn, .bool ins, Z.u last] 95) {x : Int} (hxb : 0 ≤ x ∧ x ≤ 255) :
    oX 18 #[Z.p bk, .agg #[Z.i 17, Z.u x]] w fun e w' => ∃ v, e = .returned v ∧ ∃ (q : Bool) (e st' why' tn' last' : Int) (ins' : Bool), v = .tuple #[.bool q, Z.i e] ∧ ((q = true ∧ e = 0 ∧ st = 1 ∧ ¬ Gs.AQ x = ⟨#[]⟩ ∧ st' = 2 ∧ ins' = false ∧ last' = x) ∨ (q = false ∧ ¬ e = 0 ∧ st' = st ∧ ins' = ins ∧ last' = last ∧ ¬ (st = 1 ∧ ¬ Gs.AQ x = ⟨#[]⟩))) ∧ Z.h w' bk #[Z.p bs, Z.i st', Z.i why', Z.i tn', .bool ins', Z.u last'] 95 ∧ ∃ (bp' : Nat) (A' : Option Addr) (n' cp' : Nat), Z.h w' bs #[Z.i (if q = true ∧ x = 109 then Gs.bP s 0 else s).r0, Z.i (if q = true ∧ x = 109 then Gs.bP s 0 else s).c0, Z.i (if q = true ∧ x = 109 then Gs.bP s 0 else s).r1, Z.i (if q = true ∧ x = 109 then Gs.bP s 0 else s).c1, Z.i (if q = true ∧ x = 109 then Gs.bP s 0 else s).wh, Z.p bp'] 89 ∧ Z.h w' bp' #[Z.i (if q = true ∧ x = 109 then Gs.bP s 0 else s).r, Z.i (if q = true ∧ x = 109 then Gs.bP s 0 else s).c, .slice A' n' cp', Z.i (if q = true ∧ x = 109 then Gs.bP s 0 else s).cur] 91 ∧ Own B0 w' 37 5 (.slice A' n' cp') (rows Gs.cv (if q = true ∧ x = 109 then Gs.bP s 0 else s).cs) ∧ n' = (if q = true ∧ x = 109 then Gs.bP s 0 else s).cs.length ∧ (bp' = bp ∨ w.heap.size ≤ bp') ∧ (∀ k, aG (.slice A' n' cp') k → aG (.slice A n cp) k ∨ w.heap.size ≤ k) ∧ aB (fun k => ((aG (.slice A n cp) k ∨ k = bp) ∨ k = bs) ∨ k = bk) w w' := by
 refine Nh.calls ?_
 unfold Nh
 have hW := hS.2
 obtain ⟨hn, hcw, hcu, hp, hN, hb⟩ := id hW
 have hF : aB (fun k => ((aG (.slice A n cp) k ∨ k = bp) ∨ k = bs) ∨ k = bk) w w := Fr.refl _ _ _
 refine Z.x (#[Z.i 17, Z.u x]) (fun b1 w1 e1 ah _ U1 => ?_)
 refine Z.f 0 ?_
 refine Z.l ah ?_
 refine jQ (dh _ _ _ _ _) (by decide) ?_
 refine aH ?_
 refine dB ?_
 refine Z.f 1 ?_
 replace aC := U1.af aC
 refine aA (nP aC) (fun w2 U2 => ?_)
 obtain ⟨em, hem⟩ : ∃ em : Int, em = (if st = 1 then 0 else 40) := ⟨_, rfl⟩
 rw [← hem]
 have hem2 : (em = 0 → st = 1) ∧ (st = 1 → em = 0) := by subst hem; split <;> omega
 clear hem
 refine az (jO _ _ _ _ _) (fun h3 => ?_) (fun h3 => ?_)
 refine aK ?_
 have e1 : (if (true : Bool) = true ∧ x = 109 then Gs.bP s 0 else s) = (if x = 109 then Gs.bP s 0 else s) := by simp
 have e0 : (if (false : Bool) = true ∧ x = 109 then Gs.bP s 0 else s) = s := by simp
 replace ae := (ae.ai U1).ai U2
 replace ax := U2.af (U1.af ax)
 replace ag := U2.af (U1.af ag)
 replace hF := (hF.go0 U1).go0 U2
 replace aC := U2.af aC
 exact ⟨_, rfl, false, _, st, why, tn, last, ins, rfl, .inr ⟨rfl, (by assumption), rfl, rfl, rfl, (fun hq => by (have := hem2.2 hq.1; omega))⟩, aC, bp, A, n, cp, (by rw [e0]; exact ax), (by rw [e0]; exact ag), (by rw [e0]; exact ae), (by rw [e0]; exact hn), .inl rfl, (fun k hk => .inl hk), hF⟩
 refine aH ?_
 replace ah := U2.af ah
 refine Z.b 2 (#[Z.i 17, Z.u x]) ah ?_
 refine eF (Ih (k := 17) hxb) (fun w5 U5 h5 => ?_) (fun w5 U5 h5 => ?_)
 simp only [Z.d, Z.c] at h5
 refine ak (jE) ?_
 refine aH ?_
 refine Z.f 0 ?_
 replace ah := U5.af ah
 refine Z.l ah ?_
 refine qf (dh _ _ _ _ _) (rfl) ?_
 refine aK ?_
 refine Z.f 1 ?_
 refine Z.l ah ?_
 replace ae := ((ae.ai U1).ai U2).ai U5
 replace ax := U5.af (U2.af (U1.af ax))
 replace ag := U5.af (U2.af (U1.af ag))
 replace hF := ((hF.go0 U1).go0 U2).go0 U5
 replace aC := U5.af (U2.af aC)
 refine aI (acz ax ag ae hS (by have := hF.size; omega) aC (x := x) (hem2.1 (Classical.not_not.1 (by assumption)))) (fun v6 w6 D6 => ?_)
 have qF6 := hF.size
 have qF36 := hF.size
 obtain ⟨rfl, tn36, aC, bp36, A36, n36, cp36, ax, aek, Zn, hn36, hb36, ho36, U6⟩ := D6
 replace hF := hF.go U6 (fun i hi hs => by exact hs)
 refine Z.e ?_
 refine Z.e ?_
 have e1 : (if (true : Bool) = true ∧ x = 109 then Gs.bP s 0 else s) = (if x = 109 then Gs.bP s 0 else s) := by simp
 have e0 : (if (false : Bool) = true ∧ x = 109 then Gs.bP s 0 else s) = s := by simp
 rw [← e1] at ax aek Zn hn36; exact ⟨_, rfl, true, 0, 2, 0, tn36, x, false, rfl, .inl ⟨rfl, rfl, hem2.1 (Classical.not_not.1 (by assumption)), ((show (1 ≤ (17 : Int) ∧ (17 : Int) < 17) ∨ (True ∧ ¬ Gs.AQ x = ⟨#[]⟩) by assumption).resolve_left (by omega)).2, rfl, rfl, rfl⟩, aC, bp36, A36, n36, cp36, ax, aek, Zn, hn36, hb36.imp id (fun h => by omega), (fun k hk => (ho36 k hk).imp id (fun h => by omega)), hF⟩
 simp only [Z.d, Z.c] at h5
 refine ak (mY) ?_
 refine aK ?_
 have e1 : (if (true : Bool) = true ∧ x = 109 then Gs.bP s 0 else s) = (if x = 109 then Gs.bP s 0 else s) := by simp
 have e0 : (if (false : Bool) = true ∧ x = 109 then Gs.bP s 0 else s) = s := by simp
 replace ae := ((ae.ai U1).ai U2).ai U5
 replace ax := U5.af (U2.af (U1.af ax))
 replace ag := U5.af (U2.af (U1.af ag))
 replace hF := ((hF.go0 U1).go0 U2).go0 U5
 replace aC := U5.af (U2.af aC)
 exact ⟨_, rfl, false, _, st, why, tn, last, ins, rfl, .inr ⟨rfl, (by decide), rfl, rfl, rfl, (fun hq => by (have h17 : ¬ ((1 ≤ (17 : Int) ∧ (17 : Int) < 17) ∨ (True ∧ ¬ Gs.AQ x = ⟨#[]⟩)) := (by assumption); exact h17 (.inr ⟨trivial, hq.2⟩)))⟩, aC, bp, A, n, cp, (by rw [e0]; exact ax), (by rw [e0]; exact ag), (by rw [e0]; exact ae), (by rw [e0]; exact hn), .inl rfl, (fun k hk => .inl hk), hF⟩
end Go.Proofs.YtjdoakbadehicaaGreatDoor
end
