/- Part of a proof. No condition but those that its theorems state. -/
import Derived.Test.YtjdoakbadehicaaGreatDoorQd
import Derived.Test.YtjdoakbadehicaaGreatDoorQf
import Derived.Test.YtjdoakbadehicaaGreatDoorQc
set_option linter.unusedVariables false
set_option linter.unusedSimpArgs false
section
namespace Go.Proofs.YtjdoakbadehicaaGreatDoor
open Go Go.Sh
set_option maxRecDepth 100000
theorem abw {r c : Int} {A : Option Addr} {n cp bp bb B0 : Nat} {b : Gs.Br} {w : World} (ag : Z.h w bp #[Z.i r, Z.i c, .slice A n cp, Z.i b.cur] 91) (ae : Own B0 w 37 5 (.slice A n cp) (rows Gs.cv b.cs)) (aO : Z.h w bb #[Z.p bp, Z.i b.at', Z.u b.lk.b, .bool b.lk.ge, .bool b.lk.st, Z.u b.lk.l, Z.u b.lk.c, .bool b.ld] 229) (hB : Gs.Bw r c n b)  :
    oX 204 #[Z.p bb] w fun e w' => ∃ v, e = .returned v ∧ Z.h w' bb #[Z.p bp, Z.i (Gs.Dz b).at', Z.u (Gs.Dz b).lk.b, .bool (Gs.Dz b).lk.ge, .bool (Gs.Dz b).lk.st, Z.u (Gs.Dz b).lk.l, Z.u (Gs.Dz b).lk.c, .bool (Gs.Dz b).ld] 229 ∧ aA (· = bb) w w' := by
 refine Zm.calls ?_
 unfold Zm
 obtain ⟨hW, hat, hlw⟩ := id hB
 obtain ⟨hn, hcw, hcu, hp, hN, hb⟩ := id hW
 have hF : aA (· = bb) w w := Fr.refl _ _ _
 refine dS (S := no) (fun w1 U1 => ?_)
 refine fV ?_
 refine Z.g 0 ?_
 replace aO := U1.af aO
 refine Z.m aO ?_
 replace ae := ae.ai U1
 replace ag := U1.af ag
 refine fO (fun w' hw' => by have ag := hw'.af ag; have ae := ae.ai hw'; exact jS ag ae hn) ?_
 refine fV ?_
 refine Z.g 1 ?_
 refine Z.m aO ?_
 refine fO (fun w' hw' => mJ (i := b.at') (j := 1)) ?_
 rw [hN, Gs.rO (by omega), hn]
 refine fV ?_
 refine Z.g 1 ?_
 refine aI (fun w4 U4 => ?_)
 replace aO := U4.af aO
 refine Z.s aO (fun w5 aO _ U5 => ?_)
 replace hF := (hF.go0 U1).go0 U4
 replace hF := hF.go U5 (fun i _ h => h)
 refine aI (fun w6 U6 => ?_)
 replace aO := U6.af aO
 replace hF := hF.go0 U6
 exact ⟨_, rfl, aO, hF⟩
theorem F6 {r c : Int} {A : Option Addr} {n cp bp bb B0 : Nat} {b : Gs.Br} {w : World} (ag : Z.h w bp #[Z.i r, Z.i c, .slice A n cp, Z.i b.cur] 91) (ae : Own B0 w 37 5 (.slice A n cp) (rows Gs.cv b.cs)) (aO : Z.h w bb #[Z.p bp, Z.i b.at', Z.u b.lk.b, .bool b.lk.ge, .bool b.lk.st, Z.u b.lk.l, Z.u b.lk.c, .bool b.ld] 229) (hB : Gs.Bw r c n b) {x : Gs.Cell} (hx : Gs.Cw x) :
    oX 198 #[Z.p bb, .agg (Gs.cv x).toArray] w fun e w' => ∃ v, e = .returned v ∧ Z.h w' bb #[Z.p bp, Z.i (Gs.vH b x).at', Z.u (Gs.vH b x).lk.b, .bool (Gs.vH b x).lk.ge, .bool (Gs.vH b x).lk.st, Z.u (Gs.vH b x).lk.l, Z.u (Gs.vH b x).lk.c, .bool (Gs.vH b x).ld] 229 ∧ Own B0 w' 37 5 (.slice A n cp) (rows Gs.cv (Gs.vH b x).cs) ∧ aA (fun k => aH (.slice A n cp) k ∨ k = bb) w w' := by
 refine Zi.calls ?_
 unfold Zi
 obtain ⟨hW, hat, hlw⟩ := id hB
 obtain ⟨hn, hcw, hcu, hp, hN, hb⟩ := id hW
 have hF : aA (fun k => aH (.slice A n cp) k ∨ k = bb) w w := Fr.refl _ _ _
 refine Z.x ((Gs.cv x).toArray) (fun b1 w1 e1 ah _ U1 => ?_)
 refine dS (S := no) (fun w2 U2 => ?_)
 refine fV ?_
 refine Z.g 0 ?_
 replace aO := U2.af (U1.af aO)
 refine Z.m aO ?_
 refine fV ?_
 refine Z.g 1 ?_
 refine Z.m aO ?_
 replace ah := U2.af ah
 refine bJ (fun w' hw' => by have ah := hw'.af ah; exact (Bv (n := 5) (cs' := (Gs.cv x).toArray) (by kernel_rfl) ah (Nat.le_of_ble_eq_true rfl) (by rfl))) ?_
 refine aI (fun w3 U3 => ?_)
 replace ae := ((ae.ai U1).ai U2).ai U3
 replace ag := U3.af (U2.af (U1.af ag))
 refine aN (jv ag ae hn (i := b.at') (x := x)) (fun v4 w4 D4 => ?_)
 obtain ⟨rfl, N4, U4⟩ := D4
 have aK := ae
 replace ag := U4.get ag (fun h => Own.aS aK ag (by decide) _ h rfl)
 replace ae := N4
 replace aO := U3.af aO
 replace aO := U4.get aO (fun h => Own.aS aK aO (by decide) _ h rfl)
 replace hF := ((hF.go0 U1).go0 U2).go0 U3
 replace hF := hF.go U4 (fun i h hs => .inl hs)
 clear aK
 refine aI (fun w5 U5 => ?_)
 replace ae := ae.ai U5
 replace ag := U5.af ag
 replace aO := U5.af aO
 refine aN (abw (b := { b with cs := Gs.jb b.cs b.at' x }) ag ae aO ⟨hW.set _ hx, hat, hlw⟩) (fun v6 w6 D6 => ?_)
 obtain ⟨N6, U6⟩ := D6
 replace ae := ae.aF U6 (Own.aS ae (by assumption) (by decide))
 replace aO := N6
 replace hF := hF.go0 U5
 replace hF := hF.go U6 (fun i _ h => .inr h)
 have e : (Gs.Dz { b with cs := Gs.jb b.cs b.at' x }).at' = (Gs.vH b x).at' := by show (b.at' + 1) % ((Gs.jb b.cs b.at' x).length : Int) = _; rw [Gs.mi]; rfl
 rw [e] at aO
 exact ⟨_, rfl, aO, ae, hF⟩
theorem IM {bp bb : Nat} {b : Gs.Br} {w : World} (aO : Z.h w bb #[Z.p bp, Z.i b.at', Z.u b.lk.b, .bool b.lk.ge, .bool b.lk.st, Z.u b.lk.l, Z.u b.lk.c, .bool b.ld] 229) {x : Int} {g : Bool} :
    oX 199 #[Z.p bb, Z.u x, .bool g] w fun e w' => e = .returned (.agg (Gs.cv (Gs.vU b x g)).toArray) ∧ aA no w w' := by
 refine Zj.calls ?_
 unfold Zj
 have hF : aA no w w := Fr.refl _ _ _
 refine Z.n ((Gs.cv Gs.zc).toArray) (fun b1 w1 e1 ah _ U1 => ?_)
 have bZ : w.heap.size ≤ b1 := by have := hF.size; omega
 refine dS (S := no) (fun w2 U2 => ?_)
 refine fV ?_
 refine Z.g 2 ?_
 refine Z.g 3 ?_
 replace aO := U2.af (U1.af aO)
 refine Z.m aO ?_
 refine fV ?_
 refine Z.g 2 ?_
 refine Z.g 4 ?_
 refine Z.m aO ?_
 refine bJ (fun w' hw' => (bG (l := [(0, 1), (1, 1), (2, 1), (3, 1), (4, 1)]) (z := #[Z.u 0, .bool false, .bool false, Z.u 0, Z.u 0]) (cs := Gs.cv (Gs.vU b x g)) (by kernel_rfl) (by rfl))) ?_
 refine aI (fun w4 U4 => ?_)
 replace ah := U4.af (U2.af ah)
 refine Z.t 5 ((Gs.cv (Gs.vU b x g)).toArray) (by (simp [Value.cells, Value.oneCell', Gs.cv, Gs.fv, Gs.ie, Gs.pe, Gs.oe, Gs.cO, Gs.fe, Gs.fM, Gs.ce, Gs.dZ]; done)) ah (fun w5 ah _ U5 => ?_)
 refine aI (fun w6 U6 => ?_)
 replace ah := U6.af ah
 refine Z.a 5 ah ?_
 replace hF := ((((hF.go0 U1).go0 U2).go0 U4).go1 U5 bZ).go0 U6
 exact ⟨rfl, hF⟩
theorem Cb {c : Gs.Cell} {ps : List Gs.Pr} {A : Option Addr} {n cp : Nat} {w : World} (bH : Rd w A (rows Gs.pe ps)) (hn : n = ps.length) (hb : n ≤ 100000) (hpw : ∀ p ∈ ps, Gs.WL p) :
    oX 200 #[.agg (Gs.cv c).toArray, .slice A n cp] w fun e w' => e = .returned (.agg (Gs.cv (Gs.oH c ps)).toArray) ∧ aA no w w' := by
 refine Zk.calls ?_
 unfold Zk
 subst hn
 have hF : aA no w w := Fr.refl _ _ _
 refine Z.x ((Gs.cv c).toArray) (fun b1 w1 e1 ah _ U1 => ?_)
 have rq := bH.apart e1
 have bZ : w.heap.size ≤ b1 := by have := hF.size; omega
 refine Z.n ((Gs.cv Gs.zc).toArray) (fun b2 w2 e2 ax _ U2 => ?_)
 have lI : b1 ≠ b2 := by have := au ah; omega
 replace hF := hF.go0 U1
 have eQ : w.heap.size ≤ b2 := by have := hF.size; omega
 refine bM (fun g w' => (Z.h w' b1 ((Gs.cv (Gs.oH c ps)).toArray) 37) ∧ (Z.h w' b2 ((Gs.cv Gs.zc).toArray) 37) ∧ (aA no w w')) (fun J1 hJ1 => ?_) (fun gJ1 jT hI => ?_)
 refine ak (gZ (by kernel_rfl) _ _ _) ?_
 refine ed (fun g w' => ∃ (k : Nat), (g 9 = Z.i (k : Int)) ∧ (k ≤ ps.length) ∧ (Z.h w' b1 ((Gs.cv (Gs.oH c (ps.take k))).toArray) 37) ∧ (Z.h w' b2 ((Gs.cv Gs.zc).toArray) 37) ∧ (Rd w' A (rows Gs.pe ps)) ∧ (aA no w w')) (fun g w' => ps.length - (RowKit.intOf (g 9)).toNat) ?_ (fun g2 qK hI => ?_)
 replace bH := (bH.ai U1).ai U2
 replace ah := U2.af ah
 replace hF := hF.go0 U2
 exact ⟨0, (by rfl), Nat.zero_le _, ah, ax, bH, hF⟩
 replace bH := (bH.ai U1).ai U2
 replace ah := U2.af ah
 replace hF := hF.go0 U2
 obtain ⟨k, g9, hk, ah, ax, bH, hF⟩ := hI
 rw [g9]
 refine az (lss _ _ _ _) (fun h3 => ?_) (fun h3 => ?_)
 refine aJ ?_
 refine bM (fun g w' => (Z.h w' b1 ((Gs.cv (Gs.oH c (ps.take (k + 1)))).toArray) 37) ∧ (Z.h w' b2 ((Gs.cv Gs.zc).toArray) 37) ∧ (Rd w' A (rows Gs.pe ps)) ∧ (aA no w w')) (fun J3 hJ3 => ?_) (fun gJ3 JO hI => ?_)
 refine sW Gs.AX (by kernel_rfl) (by kernel_rfl) bH (by rfl) (by omega) (by omega) (fun x4 hx4 => ?_)
 simp only [Int.toNat_natCast] at hx4
 have hpx := hpw _ (List.mem_of_getElem? hx4)
 have hpv := hpx.2
 refine Z.n ((Gs.pe Gs.zpr).toArray) (fun b5 w5 e5 bY _ U5 => ?_)
 have gB : b1 ≠ b5 := by have := au ah; omega
 have mQ : b2 ≠ b5 := by have := au ax; omega
 have zS := bH.apart e5
 have ik : w.heap.size ≤ b5 := by have := hF.size; omega
 refine Z.t 2 ((Gs.pe x4).toArray) (by (simp [Value.cells, Value.oneCell', Gs.cv, Gs.fv, Gs.ie, Gs.pe, Gs.oe, Gs.cO, Gs.fe, Gs.fM, Gs.ce, Gs.dZ]; done)) bY (fun w6 bY _ U6 => ?_)
 refine Z.f 0 ?_
 refine Z.l bY ?_
 refine az (cZ _ _ _ _ _) (fun h7 => ?_) (fun h7 => ?_)
 refine aJ ?_
 refine Z.f 1 ?_
 refine Z.l bY ?_
 refine ak (Es _ (by omega)) ?_
 refine Z.f 0 ?_
 replace ah := U6.aj (U5.af ah) gB
 refine Z.s ah (fun w8 ah _ U8 => ?_)
 refine hJ3 _ _ ?_
 replace bH := ((bH.ai U5).aF U6 zS).aF U8 rq
 replace ax := U8.aj (U6.aj (U5.af ax) mQ) (Ne.symm lI)
 replace hF := ((hF.go0 U5).go1 U6 ik).go1 U8 bZ
 exact ⟨(by rw [Gs.yx hx4]; unfold Gs.wJ; (rw [if_pos (by assumption)]; exact ah)), ax, bH, hF⟩
 refine aC ?_
 refine az (cZ _ _ _ _ _) (fun h9 => ?_) (fun h9 => ?_)
 refine aJ ?_
 refine Z.f 1 ?_
 refine Z.l bY ?_
 refine Z.f 3 ?_
 replace ah := U6.aj (U5.af ah) gB
 refine Z.s ah (fun w10 ah _ aY => ?_)
 refine hJ3 _ _ ?_
 replace bH := ((bH.ai U5).aF U6 zS).aF aY rq
 replace ax := aY.aj (U6.aj (U5.af ax) mQ) (Ne.symm lI)
 replace hF := ((hF.go0 U5).go1 U6 ik).go1 aY bZ
 exact ⟨(by rw [Gs.yx hx4]; unfold Gs.wJ; (rw [if_neg (by assumption), if_pos (by assumption)]; exact ah)), ax, bH, hF⟩
 refine aC ?_
 refine az (cZ _ _ _ _ _) (fun h11 => ?_) (fun h11 => ?_)
 refine aJ ?_
 refine Z.f 1 ?_
 refine Z.l bY ?_
 refine Z.f 4 ?_
 replace ah := U6.aj (U5.af ah) gB
 refine Z.s ah (fun w12 ah _ di => ?_)
 refine hJ3 _ _ ?_
 replace bH := ((bH.ai U5).aF U6 zS).aF di rq
 replace ax := di.aj (U6.aj (U5.af ax) mQ) (Ne.symm lI)
 replace hF := ((hF.go0 U5).go1 U6 ik).go1 di bZ
 exact ⟨(by rw [Gs.yx hx4]; unfold Gs.wJ; (rw [if_neg (by assumption), if_neg (by assumption), if_pos (by assumption)]; exact ah)), ax, bH, hF⟩
 refine aC ?_
 refine az (cZ _ _ _ _ _) (fun h13 => ?_) (fun h13 => ?_)
 refine aJ ?_
 refine Z.f 3 ?_
 replace ah := U6.aj (U5.af ah) gB
 refine Z.s ah (fun sO ah _ dC => ?_)
 refine Z.f 4 ?_
 refine Z.s ah (fun uG ah _ bW => ?_)
 refine hJ3 _ _ ?_
 replace bH := (((bH.ai U5).aF U6 zS).aF dC rq).aF bW rq
 replace ax := bW.aj (dC.aj (U6.aj (U5.af ax) mQ) (Ne.symm lI)) (Ne.symm lI)
 replace hF := (((hF.go0 U5).go1 U6 ik).go1 dC bZ).go1 bW bZ
 exact ⟨(by rw [Gs.yx hx4]; unfold Gs.wJ; (rw [if_neg (by assumption), if_neg (by assumption), if_neg (by assumption), if_pos (by assumption)]; exact ah)), ax, bH, hF⟩
 refine aC ?_
 refine hJ3 _ _ ?_
 replace bH := (bH.ai U5).aF U6 zS
 replace ah := U6.aj (U5.af ah) gB
 replace ax := U6.aj (U5.af ax) mQ
 replace hF := (hF.go0 U5).go1 U6 ik
 exact ⟨(by rw [Gs.yx hx4]; unfold Gs.wJ; (rw [if_neg (by assumption), if_neg (by assumption), if_neg (by assumption), if_neg (by assumption)]; exact ah)), ax, bH, hF⟩
 obtain ⟨ah, ax, bH, hF⟩ := hI
 refine ak (dK _ (by omega)) ?_
 exact ⟨⟨k + 1, (by rfl), by omega, ah, ax, bH, hF⟩, cnt_lt (by rfl) rfl (by omega)⟩
 refine aC ?_
 refine hJ1 _ _ ?_
 exact ⟨(by rw [List.take_of_length_le (by omega)] at ah; exact ah), ax, hF⟩
 replace ah := U2.af ah
 replace hF := hF.go0 U2
 obtain ⟨ah, ax, hF⟩ := hI
 refine Z.b 5 ((Gs.cv (Gs.oH c ps)).toArray) ah ?_
 refine Z.t 5 ((Gs.cv (Gs.oH c ps)).toArray) (by (simp [Value.cells, Value.oneCell', Gs.cv, Gs.fv, Gs.ie, Gs.pe, Gs.oe, Gs.cO, Gs.fe, Gs.fM, Gs.ce, Gs.dZ]; done)) ax (fun w16 ax _ bQ => ?_)
 refine Z.a 5 ax ?_
 replace hF := hF.go1 bQ eQ
 exact ⟨rfl, hF⟩
theorem abx {r c : Int} {A : Option Addr} {n cp bp bb B0 : Nat} {b : Gs.Br} {w : World} (ag : Z.h w bp #[Z.i r, Z.i c, .slice A n cp, Z.i b.cur] 91) (ae : Own B0 w 37 5 (.slice A n cp) (rows Gs.cv b.cs)) (aO : Z.h w bb #[Z.p bp, Z.i b.at', Z.u b.lk.b, .bool b.lk.ge, .bool b.lk.st, Z.u b.lk.l, Z.u b.lk.c, .bool b.ld] 229) (hB : Gs.Bw r c n b) {o : Gs.iM} (dE : Gs.jU w [o]) (hwo : Gs.yJ o) (hlo : o.ds.length ≤ 100000 ∧ o.ps.length ≤ 100000) (na1 : [o] = [] ∨ ∀ k, Gs.jB [o] k → ¬ aH (.slice A n cp) k) (na2 : [o] = [] ∨ ∀ k, Gs.jB [o] k → k ≠ bp) (na3 : [o] = [] ∨ ∀ k, Gs.jB [o] k → k ≠ bb) :
    oX 182 #[Z.p bb, .agg (Gs.oe o).toArray] w fun e w' => ∃ v, e = .returned v ∧ v = Z.i (Gs.wU o.m b).2 ∧ Z.h w' bp #[Z.i r, Z.i c, .slice A n cp, Z.i (Gs.wU o.m b).1.cur] 91 ∧ Own B0 w' 37 5 (.slice A n cp) (rows Gs.cv (Gs.wU o.m b).1.cs) ∧ Z.h w' bb #[Z.p bp, Z.i (Gs.wU o.m b).1.at', Z.u (Gs.wU o.m b).1.lk.b, .bool (Gs.wU o.m b).1.lk.ge, .bool (Gs.wU o.m b).1.lk.st, Z.u (Gs.wU o.m b).1.lk.l, Z.u (Gs.wU o.m b).1.lk.c, .bool (Gs.wU o.m b).1.ld] 229 ∧ aA (fun k => (aH (.slice A n cp) k ∨ k = bp) ∨ k = bb) w w' := by
 refine Y7.calls ?_
 unfold Y7
 obtain ⟨hW, hat, hlw⟩ := id hB
 obtain ⟨hn, hcw, hcu, hp, hN, hb⟩ := id hW
 obtain ⟨hok, hob, hod, hop⟩ := id hwo
 have hF : aA (fun k => (aH (.slice A n cp) k ∨ k = bp) ∨ k = bb) w w := Fr.refl _ _ _
 refine Z.x ((Gs.oe o).toArray) (fun b1 w1 e1 ah _ U1 => ?_)
 refine bM (fun g w' => (Z.h w' bp #[Z.i r, Z.i c, .slice A n cp, Z.i (Gs.lT o.ds b).cur] 91) ∧ (Own B0 w' 37 5 (.slice A n cp) (rows Gs.cv (Gs.lT o.ds b).cs)) ∧ (Z.h w' bb #[Z.p bp, Z.i (Gs.lT o.ds b).at', Z.u (Gs.lT o.ds b).lk.b, .bool (Gs.lT o.ds b).lk.ge, .bool (Gs.lT o.ds b).lk.st, Z.u (Gs.lT o.ds b).lk.l, Z.u (Gs.lT o.ds b).lk.c, .bool (Gs.lT o.ds b).ld] 229) ∧ (aA (fun k => (aH (.slice A n cp) k ∨ k = bp) ∨ k = bb) w w')) (fun J1 hJ1 => ?_) (fun gJ1 jT hI => ?_)
 refine Z.f 5 ?_
 refine Z.l ah ?_
 refine ak (gZ (by kernel_rfl) _ _ _) ?_
 refine ed (fun g w' => ∃ (k : Nat), (g 10 = Z.i (k : Int)) ∧ (k ≤ o.ds.length) ∧ (Z.h w' bp #[Z.i r, Z.i c, .slice A n cp, Z.i (Gs.lT (o.ds.take k) b).cur] 91) ∧ (Own B0 w' 37 5 (.slice A n cp) (rows Gs.cv (Gs.lT (o.ds.take k) b).cs)) ∧ (Z.h w' bb #[Z.p bp, Z.i (Gs.lT (o.ds.take k) b).at', Z.u (Gs.lT (o.ds.take k) b).lk.b, .bool (Gs.lT (o.ds.take k) b).lk.ge, .bool (Gs.lT (o.ds.take k) b).lk.st, Z.u (Gs.lT (o.ds.take k) b).lk.l, Z.u (Gs.lT (o.ds.take k) b).lk.c, .bool (Gs.lT (o.ds.take k) b).ld] 229) ∧ (Gs.jU w' [o]) ∧ (aA (fun k => (aH (.slice A n cp) k ∨ k = bp) ∨ k = bb) w w')) (fun g w' => o.ds.length - (RowKit.intOf (g 10)).toNat) ?_ (fun g2 qK hI => ?_)
 replace ae := ae.ai U1
 replace dE := dE.ai U1
 replace ag := U1.af ag
 replace aO := U1.af aO
 replace hF := hF.go0 U1
 exact ⟨0, (by rfl), Nat.zero_le _, ag, ae, aO, dE, hF⟩
 replace ae := ae.ai U1
 replace dE := dE.ai U1
 replace ag := U1.af ag
 replace aO := U1.af aO
 replace hF := hF.go0 U1
 obtain ⟨k, g10, hk, ag, ae, aO, dE, hF⟩ := hI
 rw [g10]
 have hBk : Gs.Bw r c n (Gs.lT (o.ds.take k) b) := hB.data (fun x hx => hod x (List.mem_of_mem_take hx))
 have hnk := hBk.hn
 refine az (lss _ _ _ _) (fun h2 => ?_) (fun h2 => ?_)
 refine aJ ?_
 refine mF (by kernel_rfl) (by kernel_rfl) dE.d (by rfl) (by omega) (by omega) (fun x3 hx3 => ?_)
 simp only [Int.toNat_natCast] at hx3
 refine aB (IM (b := (Gs.lT (o.ds.take k) b)) aO (x := x3) (g := false)) (fun w4 U4 => ?_)
 replace ae := ae.ai U4
 replace ag := U4.af ag
 replace aO := U4.af aO
 refine aN (F6 (b := (Gs.lT (o.ds.take k) b)) ag ae aO hBk (x := Gs.vU (Gs.lT (o.ds.take k) b) x3 false) (Gs.IP (hod.get hx3) _)) (fun v5 w5 D5 => ?_)
 obtain ⟨M5, N5, U5⟩ := D5
 have aK := ae
 replace ae := N5
 replace dE := dE.ai U4
 replace dE := dE.dX U5 (na1.elim .inl fun h1 => na3.imp_right fun h2 k hk hs => Or.elim (show aH _ _ ∨ _ = _ from hs) (h1 k hk) (fun hb => h2 k hk hb))
 replace ag := U5.get ag (fun hs => Or.elim (show aH _ _ ∨ _ = _ from hs) (fun h => Own.aS aK ag (by decide) _ h rfl) (fun hb => absurd hb (by exact dW (by assumption) (by assumption) (by decide))))
 replace aO := M5
 replace hF := hF.go0 U4
 replace hF := hF.go U5 (fun i h hs => Or.elim (show aH _ _ ∨ _ = _ from hs) (fun hs => .inl (.inl hs)) (fun hb => by (subst hb; omega)))
 clear aK
 refine ak (dK _ (by omega)) ?_
 exact ⟨⟨k + 1, (by rfl), by omega, (by rw [Gs.F7 hx3]; exact ag), (by rw [Gs.F7 hx3]; exact ae), (by rw [Gs.F7 hx3]; exact aO), dE, hF⟩, cnt_lt (by rfl) rfl (by omega)⟩
 refine aC ?_
 refine hJ1 _ _ ?_
 exact ⟨(by rw [List.take_of_length_le (by omega)] at ag; exact ag), (by rw [List.take_of_length_le (by omega)] at ae; exact ae), (by rw [List.take_of_length_le (by omega)] at aO; exact aO), hF⟩
 replace ae := ae.ai U1
 replace ag := U1.af ag
 replace aO := U1.af aO
 replace hF := hF.go0 U1
 obtain ⟨ag, ae, aO, hF⟩ := hI
 exact ⟨_, rfl, rfl, ag, ae, aO, hF⟩
theorem TU {r c : Int} {A : Option Addr} {n cp bp bb B0 : Nat} {b : Gs.Br} {w : World} (ag : Z.h w bp #[Z.i r, Z.i c, .slice A n cp, Z.i b.cur] 91) (ae : Own B0 w 37 5 (.slice A n cp) (rows Gs.cv b.cs)) (aO : Z.h w bb #[Z.p bp, Z.i b.at', Z.u b.lk.b, .bool b.lk.ge, .bool b.lk.st, Z.u b.lk.l, Z.u b.lk.c, .bool b.ld] 229) (hB : Gs.Bw r c n b) {o : Gs.iM} (dE : Gs.jU w [o]) (hwo : Gs.yJ o) (hlo : o.ds.length ≤ 100000 ∧ o.ps.length ≤ 100000) (na1 : [o] = [] ∨ ∀ k, Gs.jB [o] k → ¬ aH (.slice A n cp) k) (na2 : [o] = [] ∨ ∀ k, Gs.jB [o] k → k ≠ bp) (na3 : [o] = [] ∨ ∀ k, Gs.jB [o] k → k ≠ bb) :
    oX 183 #[Z.p bb, .agg (Gs.oe o).toArray] w fun e w' => ∃ v, e = .returned v ∧ v = Z.i (Gs.wV o.m b).2 ∧ Z.h w' bp #[Z.i r, Z.i c, .slice A n cp, Z.i (Gs.wV o.m b).1.cur] 91 ∧ Own B0 w' 37 5 (.slice A n cp) (rows Gs.cv (Gs.wV o.m b).1.cs) ∧ Z.h w' bb #[Z.p bp, Z.i (Gs.wV o.m b).1.at', Z.u (Gs.wV o.m b).1.lk.b, .bool (Gs.wV o.m b).1.lk.ge, .bool (Gs.wV o.m b).1.lk.st, Z.u (Gs.wV o.m b).1.lk.l, Z.u (Gs.wV o.m b).1.lk.c, .bool (Gs.wV o.m b).1.ld] 229 ∧ aA (fun k => (aH (.slice A n cp) k ∨ k = bp) ∨ k = bb) w w' := by
 refine Y8.calls ?_
 unfold Y8
 obtain ⟨hW, hat, hlw⟩ := id hB
 obtain ⟨hn, hcw, hcu, hp, hN, hb⟩ := id hW
 obtain ⟨hok, hob, hod, hop⟩ := id hwo
 have hF : aA (fun k => (aH (.slice A n cp) k ∨ k = bp) ∨ k = bb) w w := Fr.refl _ _ _
 refine Z.x ((Gs.oe o).toArray) (fun b1 w1 e1 ah _ U1 => ?_)
 refine Z.f 2 ?_
 refine Z.l ah ?_
 replace aO := U1.af aO
 refine aB (IM aO (x := o.b) (g := true)) (fun w2 U2 => ?_)
 replace ae := (ae.ai U1).ai U2
 replace ag := U2.af (U1.af ag)
 replace aO := U2.af aO
 refine aN (F6 (b := b) ag ae aO hB (x := Gs.vU b o.b true) (Gs.IP hob _)) (fun v3 w3 D3 => ?_)
 obtain ⟨M3, N3, U3⟩ := D3
 have aK := ae
 replace ae := N3
 replace ag := U3.get ag (fun hs => Or.elim (show aH _ _ ∨ _ = _ from hs) (fun h => Own.aS aK ag (by decide) _ h rfl) (fun hb => absurd hb (by exact dW (by assumption) (by assumption) (by decide))))
 replace aO := M3
 replace hF := (hF.go0 U1).go0 U2
 replace hF := hF.go U3 (fun i h hs => Or.elim (show aH _ _ ∨ _ = _ from hs) (fun hs => .inl (.inl hs)) (fun hb => by (subst hb; omega)))
 clear aK
 exact ⟨_, rfl, rfl, ag, ae, aO, hF⟩
theorem IQ {r c : Int} {A : Option Addr} {n cp bp bb B0 : Nat} {b : Gs.Br} {w : World} (ag : Z.h w bp #[Z.i r, Z.i c, .slice A n cp, Z.i b.cur] 91) (ae : Own B0 w 37 5 (.slice A n cp) (rows Gs.cv b.cs)) (aO : Z.h w bb #[Z.p bp, Z.i b.at', Z.u b.lk.b, .bool b.lk.ge, .bool b.lk.st, Z.u b.lk.l, Z.u b.lk.c, .bool b.ld] 229) (hB : Gs.Bw r c n b) {o : Gs.iM} (dE : Gs.jU w [o]) (hwo : Gs.yJ o) (hlo : o.ds.length ≤ 100000 ∧ o.ps.length ≤ 100000) (na1 : [o] = [] ∨ ∀ k, Gs.jB [o] k → ¬ aH (.slice A n cp) k) (na2 : [o] = [] ∨ ∀ k, Gs.jB [o] k → k ≠ bp) (na3 : [o] = [] ∨ ∀ k, Gs.jB [o] k → k ≠ bb) :
    oX 184 #[Z.p bb, .agg (Gs.oe o).toArray] w fun e w' => ∃ v, e = .returned v ∧ v = Z.i (Gs.o7 o.m b).2 ∧ Z.h w' bp #[Z.i r, Z.i c, .slice A n cp, Z.i (Gs.o7 o.m b).1.cur] 91 ∧ Own B0 w' 37 5 (.slice A n cp) (rows Gs.cv (Gs.o7 o.m b).1.cs) ∧ Z.h w' bb #[Z.p bp, Z.i (Gs.o7 o.m b).1.at', Z.u (Gs.o7 o.m b).1.lk.b, .bool (Gs.o7 o.m b).1.lk.ge, .bool (Gs.o7 o.m b).1.lk.st, Z.u (Gs.o7 o.m b).1.lk.l, Z.u (Gs.o7 o.m b).1.lk.c, .bool (Gs.o7 o.m b).1.ld] 229 ∧ aA (fun k => (aH (.slice A n cp) k ∨ k = bp) ∨ k = bb) w w' := by
 refine Y9.calls ?_
 unfold Y9
 obtain ⟨hW, hat, hlw⟩ := id hB
 obtain ⟨hn, hcw, hcu, hp, hN, hb⟩ := id hW
 have hF : aA (fun k => (aH (.slice A n cp) k ∨ k = bp) ∨ k = bb) w w := Fr.refl _ _ _
 refine Z.x ((Gs.oe o).toArray) (fun b1 w1 e1 ah _ U1 => ?_)
 refine dS (S := no) (fun w2 U2 => ?_)
 refine Z.g 1 ?_
 replace ah := U2.af ah
 refine Z.m ah ?_
 refine lD (fun w' hw' => (lss _ _ _ _)) (fun h3 => ?_) (fun h3 => ?_)
 refine jc (jc (jc (jc (jc (jc (jc (jc (lM ?_))))))))
 refine aI (fun w4 U4 => ?_)
 refine aJ ?_
 replace ae := ((ae.ai U1).ai U2).ai U4
 replace ag := U4.af (U2.af (U1.af ag))
 replace aO := U4.af (U2.af (U1.af aO))
 replace hF := ((hF.go0 U1).go0 U2).go0 U4
 rw [Gs.Jr (o := o.m) (b := b) (by show o.a < 0 ∨ (b.cs.length : Int) ≤ o.a; omega)]; exact ⟨_, rfl, rfl, ag, ae, aO, hF⟩
 refine eG ?_
 refine Z.g 1 ?_
 refine eG ?_
 refine Z.m ah ?_
 refine eG (lu (eG ?_))
 refine fV ?_
 refine eG ?_
 refine Z.g 0 ?_
 refine eG ?_
 replace aO := U2.af (U1.af aO)
 refine Z.m aO ?_
 refine eG ?_
 replace ae := (ae.ai U1).ai U2
 replace ag := U2.af (U1.af ag)
 refine fO (fun w' hw' => by have ag := hw'.af ag; have ae := ae.ai hw'; exact fG ag ae hn) ?_
 refine eG ?_
 refine lD (fun w' hw' => (geq _ _ _ _)) (fun h7 => ?_) (fun h7 => ?_)
 refine jq ?_
 refine aI (fun w8 U8 => ?_)
 refine aJ ?_
 replace hF := ((hF.go0 U1).go0 U2).go0 U8
 replace ae := ae.ai U8
 replace ag := U8.af ag
 replace aO := U8.af aO
 rw [Gs.Jr (o := o.m) (b := b) (by show o.a < 0 ∨ (b.cs.length : Int) ≤ o.a; omega)]; exact ⟨_, rfl, rfl, ag, ae, aO, hF⟩
 refine jq ?_
 refine aI (fun w10 aY => ?_)
 refine aC ?_
 refine Z.f 1 ?_
 replace ah := aY.af ah
 refine Z.l ah ?_
 refine dw ?_
 refine Z.f 1 ?_
 replace aO := aY.af aO
 refine Z.s aO (fun nR aO _ bK => ?_)
 replace ae := ae.ai aY
 replace ae := ae.aF bK (Own.aS ae (by assumption) (by decide))
 replace ag := aY.af ag
 replace ag := bK.aj ag (by exact dW (by assumption) (by assumption) (by decide))
 replace hF := ((hF.go0 U1).go0 U2).go0 aY
 replace hF := hF.go bK (fun i _ h => .inr h)
 rw [Gs.Js (o := o.m) (b := b) (by show ¬ (o.a < 0 ∨ (b.cs.length : Int) ≤ o.a); omega)]; exact ⟨_, rfl, rfl, ag, ae, aO, hF⟩
theorem ZK {r c : Int} {A : Option Addr} {n cp bp bb B0 : Nat} {b : Gs.Br} {w : World} (ag : Z.h w bp #[Z.i r, Z.i c, .slice A n cp, Z.i b.cur] 91) (ae : Own B0 w 37 5 (.slice A n cp) (rows Gs.cv b.cs)) (aO : Z.h w bb #[Z.p bp, Z.i b.at', Z.u b.lk.b, .bool b.lk.ge, .bool b.lk.st, Z.u b.lk.l, Z.u b.lk.c, .bool b.ld] 229) (hB : Gs.Bw r c n b) {o : Gs.iM} (dE : Gs.jU w [o]) (hwo : Gs.yJ o) (hlo : o.ds.length ≤ 100000 ∧ o.ps.length ≤ 100000) (na1 : [o] = [] ∨ ∀ k, Gs.jB [o] k → ¬ aH (.slice A n cp) k) (na2 : [o] = [] ∨ ∀ k, Gs.jB [o] k → k ≠ bp) (na3 : [o] = [] ∨ ∀ k, Gs.jB [o] k → k ≠ bb) :
    oX 185 #[Z.p bb, .agg (Gs.oe o).toArray] w fun e w' => ∃ v, e = .returned v ∧ v = Z.i (Gs.um o.m b).2 ∧ Z.h w' bp #[Z.i r, Z.i c, .slice A n cp, Z.i (Gs.um o.m b).1.cur] 91 ∧ Own B0 w' 37 5 (.slice A n cp) (rows Gs.cv (Gs.um o.m b).1.cs) ∧ Z.h w' bb #[Z.p bp, Z.i (Gs.um o.m b).1.at', Z.u (Gs.um o.m b).1.lk.b, .bool (Gs.um o.m b).1.lk.ge, .bool (Gs.um o.m b).1.lk.st, Z.u (Gs.um o.m b).1.lk.l, Z.u (Gs.um o.m b).1.lk.c, .bool (Gs.um o.m b).1.ld] 229 ∧ aA (fun k => (aH (.slice A n cp) k ∨ k = bp) ∨ k = bb) w w' := by
 refine Za.calls ?_
 unfold Za
 obtain ⟨hW, hat, hlw⟩ := id hB
 obtain ⟨hn, hcw, hcu, hp, hN, hb⟩ := id hW
 obtain ⟨hok, hob, hod, hop⟩ := id hwo
 have hF : aA (fun k => (aH (.slice A n cp) k ∨ k = bp) ∨ k = bb) w w := Fr.refl _ _ _
 refine Z.x ((Gs.oe o).toArray) (fun b1 w1 e1 ah _ U1 => ?_)
 refine ak (bG (l := [(0, 1), (1, 1), (2, 1), (3, 1), (4, 1)]) (z := #[Z.u 0, .bool false, .bool false, Z.u 0, Z.u 0]) (cs := Gs.cv ⟨0, false, true, 0, 0⟩) (by kernel_rfl) (by rfl)) ?_
 refine Z.n ((Gs.cv Gs.zc).toArray) (fun b3 w3 e3 bC _ U3 => ?_)
 replace ag := U1.af ag
 have lH : bp ≠ b3 := by have := au ag; omega
 replace ae := ae.ai U1
 have iQ := ae.apart e3
 replace aO := U1.af aO
 have Cc : bb ≠ b3 := by have := au aO; omega
 replace dE := dE.ai U1
 have xK := dE.apart e3
 have lL : b1 ≠ b3 := by have := au ah; omega
 replace hF := hF.go0 U1
 have jF : w.heap.size ≤ b3 := by have := hF.size; omega
 refine Z.t 5 ((Gs.cv ⟨0, false, true, 0, 0⟩).toArray) (by (simp [Value.cells, Value.oneCell', Gs.cv, Gs.fv, Gs.ie, Gs.pe, Gs.oe, Gs.cO, Gs.fe, Gs.fM, Gs.ce, Gs.dZ]; done)) bC (fun w4 bC _ U4 => ?_)
 refine bM (fun g w' => ∃ (x : Gs.Cell), (Z.h w' b3 ((Gs.cv x).toArray) 37) ∧ (x = ((if o.k = 29 then ⟨o.b % 64, false, true, 0, 0⟩ else Gs.oH ⟨0, false, true, 0, 0⟩ o.ps) : Gs.Cell)) ∧ (Gs.Cw x) ∧ (Z.h w' bp #[Z.i r, Z.i c, .slice A n cp, Z.i b.cur] 91) ∧ (Own B0 w' 37 5 (.slice A n cp) (rows Gs.cv b.cs)) ∧ (Z.h w' bb #[Z.p bp, Z.i b.at', Z.u b.lk.b, .bool b.lk.ge, .bool b.lk.st, Z.u b.lk.l, Z.u b.lk.c, .bool b.ld] 229) ∧ (aA (fun k => (aH (.slice A n cp) k ∨ k = bp) ∨ k = bb) w w')) (fun J1 hJ1 => ?_) (fun gJ1 jT hI => ?_)
 refine Z.f 0 ?_
 replace ah := U4.aj (U3.af ah) lL
 refine Z.l ah ?_
 refine az (cZ _ _ _ _ _) (fun h5 => ?_) (fun h5 => ?_)
 refine aJ ?_
 refine Z.f 2 ?_
 refine Z.l ah ?_
 refine ak (Es _ (by omega)) ?_
 refine Z.f 0 ?_
 refine Z.s bC (fun w6 bC _ U6 => ?_)
 refine hJ1 _ _ ?_
 replace ae := ((ae.ai U3).aF U4 iQ).aF U6 iQ
 replace ag := U6.aj (U4.aj (U3.af ag) lH) lH
 replace aO := U6.aj (U4.aj (U3.af aO) Cc) Cc
 replace hF := ((hF.go0 U3).go1 U4 jF).go1 U6 jF
 exact ⟨⟨o.b % 64, false, true, 0, 0⟩, bC, (by rw [if_pos (by assumption)]), (show 0 ≤ o.b % 64 ∧ o.b % 64 ≤ 255 by omega), ag, ae, aO, hF⟩
 refine aC ?_
 refine Z.b 5 ((Gs.cv ⟨0, false, true, 0, 0⟩).toArray) bC ?_
 refine Z.f 4 ?_
 refine Z.l ah ?_
 replace dE := (dE.ai U3).aF U4 xK
 refine aB (Cb (c := ⟨0, false, true, 0, 0⟩) dE.p rfl hlo.2 hop) (fun w7 U7 => ?_)
 replace bC := U7.af bC
 refine Z.t 5 ((Gs.cv (Gs.oH ⟨0, false, true, 0, 0⟩ o.ps)).toArray) (by (simp [Value.cells, Value.oneCell', Gs.cv, Gs.fv, Gs.ie, Gs.pe, Gs.oe, Gs.cO, Gs.fe, Gs.fM, Gs.ce, Gs.dZ]; done)) bC (fun w8 bC _ U8 => ?_)
 refine hJ1 _ _ ?_
 replace ae := (((ae.ai U3).aF U4 iQ).ai U7).aF U8 iQ
 replace ag := U8.aj (U7.af (U4.aj (U3.af ag) lH)) lH
 replace aO := U8.aj (U7.af (U4.aj (U3.af aO) Cc)) Cc
 replace hF := (((hF.go0 U3).go1 U4 jF).go0 U7).go1 U8 jF
 exact ⟨(Gs.oH ⟨0, false, true, 0, 0⟩ o.ps), bC, (by rw [if_neg (by assumption)]), Gs.Ce (show (0 : Int) ≤ 0 ∧ (0 : Int) ≤ 255 by decide), ag, ae, aO, hF⟩
 replace ae := (ae.ai U3).aF U4 iQ
 replace ag := U4.aj (U3.af ag) lH
 replace aO := U4.aj (U3.af aO) Cc
 replace hF := (hF.go0 U3).go1 U4 jF
 obtain ⟨x, bC, hx, hxw, ag, ae, aO, hF⟩ := hI
 refine Z.b 5 ((Gs.cv x).toArray) bC ?_
 refine aN (F6 (b := b) ag ae aO hB (x := x) hxw) (fun v9 w9 D9 => ?_)
 obtain ⟨M9, N9, U9⟩ := D9
 have aK := ae
 replace ae := N9
 replace ag := U9.get ag (fun hs => Or.elim (show aH _ _ ∨ _ = _ from hs) (fun h => Own.aS aK ag (by decide) _ h rfl) (fun hb => absurd hb (by exact dW (by assumption) (by assumption) (by decide))))
 replace aO := M9
 replace hF := hF.go U9 (fun i h hs => Or.elim (show aH _ _ ∨ _ = _ from hs) (fun hs => .inl (.inl hs)) (fun hb => by (subst hb; omega)))
 clear aK
 subst hx
 exact ⟨_, rfl, rfl, ag, ae, aO, hF⟩
theorem ZL {r c : Int} {A : Option Addr} {n cp bp bb B0 : Nat} {b : Gs.Br} {w : World} (ag : Z.h w bp #[Z.i r, Z.i c, .slice A n cp, Z.i b.cur] 91) (ae : Own B0 w 37 5 (.slice A n cp) (rows Gs.cv b.cs)) (aO : Z.h w bb #[Z.p bp, Z.i b.at', Z.u b.lk.b, .bool b.lk.ge, .bool b.lk.st, Z.u b.lk.l, Z.u b.lk.c, .bool b.ld] 229) (hB : Gs.Bw r c n b) {o : Gs.iM} (dE : Gs.jU w [o]) (hwo : Gs.yJ o) (hlo : o.ds.length ≤ 100000 ∧ o.ps.length ≤ 100000) (na1 : [o] = [] ∨ ∀ k, Gs.jB [o] k → ¬ aH (.slice A n cp) k) (na2 : [o] = [] ∨ ∀ k, Gs.jB [o] k → k ≠ bp) (na3 : [o] = [] ∨ ∀ k, Gs.jB [o] k → k ≠ bb) :
    oX 186 #[Z.p bb, .agg (Gs.oe o).toArray] w fun e w' => ∃ v, e = .returned v ∧ v = Z.i (Gs.uo o.m b).2 ∧ Z.h w' bp #[Z.i r, Z.i c, .slice A n cp, Z.i (Gs.uo o.m b).1.cur] 91 ∧ Own B0 w' 37 5 (.slice A n cp) (rows Gs.cv (Gs.uo o.m b).1.cs) ∧ Z.h w' bb #[Z.p bp, Z.i (Gs.uo o.m b).1.at', Z.u (Gs.uo o.m b).1.lk.b, .bool (Gs.uo o.m b).1.lk.ge, .bool (Gs.uo o.m b).1.lk.st, Z.u (Gs.uo o.m b).1.lk.l, Z.u (Gs.uo o.m b).1.lk.c, .bool (Gs.uo o.m b).1.ld] 229 ∧ aA (fun k => (aH (.slice A n cp) k ∨ k = bp) ∨ k = bb) w w' := by
 refine Zb.calls ?_
 unfold Zb
 obtain ⟨hW, hat, hlw⟩ := id hB
 obtain ⟨hn, hcw, hcu, hp, hN, hb⟩ := id hW
 obtain ⟨hok, hob, hod, hop⟩ := id hwo
 have hF : aA (fun k => (aH (.slice A n cp) k ∨ k = bp) ∨ k = bb) w w := Fr.refl _ _ _
 refine Z.x ((Gs.oe o).toArray) (fun b1 w1 e1 ah _ U1 => ?_)
 refine dS (S := no) (fun w2 U2 => ?_)
 refine fV ?_
 refine Z.g 2 ?_
 replace aO := U2.af (U1.af aO)
 refine bJ (fun w' hw' => by have aO := hw'.af aO; exact (Bv (n := 5) (cs' := (Gs.cv b.lk).toArray) (by kernel_rfl) aO (Nat.le_of_ble_eq_true rfl) (by rfl))) ?_
 refine Z.g 4 ?_
 replace ah := U2.af ah
 refine Z.m ah ?_
 replace dE := (dE.ai U1).ai U2
 refine fO (fun w' hw' => by have dE := dE.ai hw'; exact Cb (c := b.lk) dE.p rfl hlo.2 hop) ?_
 refine fV ?_
 refine Z.g 2 ?_
 refine aI (fun w4 U4 => ?_)
 replace aO := U4.af aO
 refine gK (n := 5) (by kernel_rfl) (by rfl) (by (simp [Value.cells, Value.oneCell', Gs.cv, Gs.fv, Gs.ie, Gs.pe, Gs.oe, Gs.cO, Gs.fe, Gs.fM, Gs.ce, Gs.dZ]; done)) aO (Nat.le_of_ble_eq_true rfl) (by (simp; rfl)) (fun w5 aO _ U5 => ?_)
 replace ae := ((ae.ai U1).ai U2).ai U4
 replace ae := ae.aF U5 (Own.aS ae (by assumption) (by decide))
 replace ag := U4.af (U2.af (U1.af ag))
 replace ag := U5.aj ag (by exact dW (by assumption) (by assumption) (by decide))
 replace hF := ((hF.go0 U1).go0 U2).go0 U4
 replace hF := hF.go U5 (fun i _ h => .inr h)
 refine aI (fun w6 U6 => ?_)
 replace ae := ae.ai U6
 replace ag := U6.af ag
 replace aO := U6.af aO
 replace hF := hF.go0 U6
 exact ⟨_, rfl, rfl, ag, ae, aO, hF⟩
theorem VA {r c : Int} {A : Option Addr} {n cp bp bb B0 : Nat} {b : Gs.Br} {w : World} (ag : Z.h w bp #[Z.i r, Z.i c, .slice A n cp, Z.i b.cur] 91) (ae : Own B0 w 37 5 (.slice A n cp) (rows Gs.cv b.cs)) (aO : Z.h w bb #[Z.p bp, Z.i b.at', Z.u b.lk.b, .bool b.lk.ge, .bool b.lk.st, Z.u b.lk.l, Z.u b.lk.c, .bool b.ld] 229) (hB : Gs.Bw r c n b) {o : Gs.iM} (dE : Gs.jU w [o]) (hwo : Gs.yJ o) (hlo : o.ds.length ≤ 100000 ∧ o.ps.length ≤ 100000) (na1 : [o] = [] ∨ ∀ k, Gs.jB [o] k → ¬ aH (.slice A n cp) k) (na2 : [o] = [] ∨ ∀ k, Gs.jB [o] k → k ≠ bp) (na3 : [o] = [] ∨ ∀ k, Gs.jB [o] k → k ≠ bb) :
    oX 187 #[Z.p bb, .agg (Gs.oe o).toArray] w fun e w' => ∃ v, e = .returned v ∧ v = Z.i (Gs.mX o.m b).2 ∧ Z.h w' bp #[Z.i r, Z.i c, .slice A n cp, Z.i (Gs.mX o.m b).1.cur] 91 ∧ Own B0 w' 37 5 (.slice A n cp) (rows Gs.cv (Gs.mX o.m b).1.cs) ∧ Z.h w' bb #[Z.p bp, Z.i (Gs.mX o.m b).1.at', Z.u (Gs.mX o.m b).1.lk.b, .bool (Gs.mX o.m b).1.lk.ge, .bool (Gs.mX o.m b).1.lk.st, Z.u (Gs.mX o.m b).1.lk.l, Z.u (Gs.mX o.m b).1.lk.c, .bool (Gs.mX o.m b).1.ld] 229 ∧ aA (fun k => (aH (.slice A n cp) k ∨ k = bp) ∨ k = bb) w w' := by
 refine Zc.calls ?_
 unfold Zc
 obtain ⟨hW, hat, hlw⟩ := id hB
 obtain ⟨hn, hcw, hcu, hp, hN, hb⟩ := id hW
 obtain ⟨hok, hob, hod, hop⟩ := id hwo
 have hF : aA (fun k => (aH (.slice A n cp) k ∨ k = bp) ∨ k = bb) w w := Fr.refl _ _ _
 refine Z.x ((Gs.oe o).toArray) (fun b1 w1 e1 ah _ U1 => ?_)
 refine dS (S := no) (fun w2 U2 => ?_)
 refine fV ?_
 refine Z.g 0 ?_
 replace aO := U2.af (U1.af aO)
 refine Z.m aO ?_
 refine fV ?_
 refine Z.g 1 ?_
 refine Z.m aO ?_
 replace ae := (ae.ai U1).ai U2
 replace ag := U2.af (U1.af ag)
 refine fO (fun w' hw' => by have ag := hw'.af ag; have ae := ae.ai hw'; exact iF ag ae hn (i := b.at')) ?_
 refine aI (fun w4 U4 => ?_)
 refine jm ?_
 refine Z.n ((Gs.cv Gs.zc).toArray) (fun b5 w5 e5 bY _ U5 => ?_)
 replace ag := U4.af ag
 have jW : bp ≠ b5 := by have := au ag; omega
 replace ae := ae.ai U4
 have jr := ae.apart e5
 replace aO := U4.af aO
 have TV : bb ≠ b5 := by have := au aO; omega
 replace dE := ((dE.ai U1).ai U2).ai U4
 have aby := dE.apart e5
 replace ah := U4.af (U2.af ah)
 have gB : b1 ≠ b5 := by have := au ah; omega
 replace hF := ((hF.go0 U1).go0 U2).go0 U4
 have ik : w.heap.size ≤ b5 := by have := hF.size; omega
 refine ⟨U5, ?_⟩
 refine aI (fun w6 U6 => ?_)
 replace bY := U6.af bY
 refine Z.t 5 ((Gs.cv (Gs.bV b.cs b.at')).toArray) (by (simp [Value.cells, Value.oneCell', Gs.cv, Gs.fv, Gs.ie, Gs.pe, Gs.oe, Gs.cO, Gs.fe, Gs.fM, Gs.ce, Gs.dZ]; done)) bY (fun w7 bY _ U7 => ?_)
 refine aI (fun w8 U8 => ?_)
 refine Z.f 2 ?_
 replace bY := U8.af bY
 refine pK (kZ (by kernel_rfl) bY (by rfl)) (fun h9 => ?_) (fun h9 => ?_)
 refine ak (lV) ?_
 refine aC ?_
 refine Z.b 5 ((Gs.cv (Gs.bV b.cs b.at')).toArray) bY ?_
 refine Z.f 4 ?_
 replace ah := U8.af (U7.aj (U6.af (U5.af ah)) gB)
 refine Z.l ah ?_
 replace dE := (((dE.ai U5).ai U6).aF U7 aby).ai U8
 refine aB (Cb (c := Gs.bV b.cs b.at') dE.p rfl hlo.2 hop) (fun w10 aY => ?_)
 replace ae := ((((ae.ai U5).ai U6).aF U7 jr).ai U8).ai aY
 replace ag := aY.af (U8.af (U7.aj (U6.af (U5.af ag)) jW))
 replace aO := aY.af (U8.af (U7.aj (U6.af (U5.af aO)) TV))
 refine aN (F6 (b := b) ag ae aO hB (x := Gs.oH (Gs.bV b.cs b.at') o.ps) (Gs.Ce (Gs.sG hcw _))) (fun v11 nR D11 => ?_)
 obtain ⟨M11, N11, bK⟩ := D11
 have aK := ae
 replace ae := N11
 replace ag := bK.get ag (fun hs => Or.elim (show aH _ _ ∨ _ = _ from hs) (fun h => Own.aS aK ag (by decide) _ h rfl) (fun hb => absurd hb (by exact dW (by assumption) (by assumption) (by decide))))
 replace aO := M11
 replace hF := ((((hF.go0 U5).go0 U6).go1 U7 ik).go0 U8).go0 aY
 replace hF := hF.go bK (fun i h hs => Or.elim (show aH _ _ ∨ _ = _ from hs) (fun hs => .inl (.inl hs)) (fun hb => by (subst hb; omega)))
 clear aK
 rw [Gs.abz (o := o.m) (b := b) (by assumption)]; exact ⟨_, rfl, rfl, ag, ae, aO, hF⟩
 refine ak (nI) ?_
 refine aJ ?_
 replace ae := (((ae.ai U5).ai U6).aF U7 jr).ai U8
 replace ag := U8.af (U7.aj (U6.af (U5.af ag)) jW)
 replace aO := U8.af (U7.aj (U6.af (U5.af aO)) TV)
 replace hF := (((hF.go0 U5).go0 U6).go1 U7 ik).go0 U8
 rw [Gs.abA (o := o.m) (b := b) (by assumption)]; exact ⟨_, rfl, rfl, ag, ae, aO, hF⟩
theorem VB {r c : Int} {A : Option Addr} {n cp bp bb B0 : Nat} {b : Gs.Br} {w : World} (ag : Z.h w bp #[Z.i r, Z.i c, .slice A n cp, Z.i b.cur] 91) (ae : Own B0 w 37 5 (.slice A n cp) (rows Gs.cv b.cs)) (aO : Z.h w bb #[Z.p bp, Z.i b.at', Z.u b.lk.b, .bool b.lk.ge, .bool b.lk.st, Z.u b.lk.l, Z.u b.lk.c, .bool b.ld] 229) (hB : Gs.Bw r c n b) {o : Gs.iM} (dE : Gs.jU w [o]) (hwo : Gs.yJ o) (hlo : o.ds.length ≤ 100000 ∧ o.ps.length ≤ 100000) (na1 : [o] = [] ∨ ∀ k, Gs.jB [o] k → ¬ aH (.slice A n cp) k) (na2 : [o] = [] ∨ ∀ k, Gs.jB [o] k → k ≠ bp) (na3 : [o] = [] ∨ ∀ k, Gs.jB [o] k → k ≠ bb) :
    oX 188 #[Z.p bb, .agg (Gs.oe o).toArray] w fun e w' => ∃ v, e = .returned v ∧ v = Z.i (Gs.qV o.m b).2 ∧ Z.h w' bp #[Z.i r, Z.i c, .slice A n cp, Z.i (Gs.qV o.m b).1.cur] 91 ∧ Own B0 w' 37 5 (.slice A n cp) (rows Gs.cv (Gs.qV o.m b).1.cs) ∧ Z.h w' bb #[Z.p bp, Z.i (Gs.qV o.m b).1.at', Z.u (Gs.qV o.m b).1.lk.b, .bool (Gs.qV o.m b).1.lk.ge, .bool (Gs.qV o.m b).1.lk.st, Z.u (Gs.qV o.m b).1.lk.l, Z.u (Gs.qV o.m b).1.lk.c, .bool (Gs.qV o.m b).1.ld] 229 ∧ aA (fun k => (aH (.slice A n cp) k ∨ k = bp) ∨ k = bb) w w' := by
 refine Zd.calls ?_
 unfold Zd
 obtain ⟨hW, hat, hlw⟩ := id hB
 obtain ⟨hn, hcw, hcu, hp, hN, hb⟩ := id hW
 have hF : aA (fun k => (aH (.slice A n cp) k ∨ k = bp) ∨ k = bb) w w := Fr.refl _ _ _
 refine Z.x ((Gs.oe o).toArray) (fun b1 w1 e1 ah _ U1 => ?_)
 refine dS (S := no) (fun w2 U2 => ?_)
 refine fV ?_
 refine Z.g 0 ?_
 replace aO := U2.af (U1.af aO)
 refine Z.m aO ?_
 refine fV ?_
 refine Z.g 1 ?_
 refine Z.m aO ?_
 refine aI (fun w3 U3 => ?_)
 replace ae := ((ae.ai U1).ai U2).ai U3
 replace ag := U3.af (U2.af (U1.af ag))
 refine aN (qR ag ae hn (i := b.at')) (fun v4 w4 D4 => ?_)
 obtain ⟨rfl, N4, U4⟩ := D4
 replace ae := ae.aF U4 (Own.aS ae (by assumption) (by decide))
 replace aO := U3.af aO
 replace aO := U4.aj aO (by exact dW (by assumption) (by assumption) (by decide))
 replace ag := N4
 replace hF := ((hF.go0 U1).go0 U2).go0 U3
 replace hF := hF.go U4 (fun i _ h => .inl (.inr h))
 rw [if_pos (by omega)] at ag
 refine aI (fun w5 U5 => ?_)
 replace ae := ae.ai U5
 replace ag := U5.af ag
 replace aO := U5.af aO
 replace hF := hF.go0 U5
 exact ⟨_, rfl, rfl, ag, ae, aO, hF⟩
theorem abB {r c : Int} {A : Option Addr} {n cp bp bb B0 : Nat} {b : Gs.Br} {w : World} (ag : Z.h w bp #[Z.i r, Z.i c, .slice A n cp, Z.i b.cur] 91) (ae : Own B0 w 37 5 (.slice A n cp) (rows Gs.cv b.cs)) (aO : Z.h w bb #[Z.p bp, Z.i b.at', Z.u b.lk.b, .bool b.lk.ge, .bool b.lk.st, Z.u b.lk.l, Z.u b.lk.c, .bool b.ld] 229) (hB : Gs.Bw r c n b)  :
    oX 201 #[Z.p bb] w fun e w' => ∃ v, e = .returned v ∧ Own B0 w' 37 5 (.slice A n cp) (rows Gs.cv (Gs.mD (b.cs.length - b.at'.toNat) b.cs b.at')) ∧ aA (aH (.slice A n cp)) w w' := by
 refine Zl.calls ?_
 unfold Zl
 obtain ⟨hW, hat, hlw⟩ := id hB
 obtain ⟨hn, hcw, hcu, hp, hN, hb⟩ := id hW
 obtain ⟨a0, ha0⟩ := Int.eq_ofNat_of_zero_le hat.1
 have ha1 : a0 < n := by omega
 have hF : aA (aH (.slice A n cp)) w w := Fr.refl _ _ _
 refine dw ?_
 refine Z.f 1 ?_
 refine Z.l aO ?_
 refine ed (fun g w' => ∃ (k : Nat) (cs1 : List Gs.Cell), (g 2 = Z.i (k : Int)) ∧ (k ≤ n) ∧ ((Gs.mD (b.cs.length - b.at'.toNat) b.cs b.at') = Gs.mD (n - k) cs1 k) ∧ (n = cs1.length) ∧ (Own B0 w' 37 5 (.slice A n cp) (rows Gs.cv cs1)) ∧ (Z.h w' bp #[Z.i r, Z.i c, .slice A n cp, Z.i b.cur] 91) ∧ (Z.h w' bb #[Z.p bp, Z.i b.at', Z.u b.lk.b, .bool b.lk.ge, .bool b.lk.st, Z.u b.lk.l, Z.u b.lk.c, .bool b.ld] 229) ∧ (aA (aH (.slice A n cp)) w w')) (fun g w' => n - (RowKit.intOf (g 2)).toNat) ?_ (fun g1 wl1 hI => ?_)
 exact ⟨a0, _, (by rw [← ha0]; rfl), (by omega), (by rw [ha0, ← hn]; rfl), hn, ae, ag, aO, hF⟩
 obtain ⟨k, cs1, g2, hk, hrs, hl1, ae, ag, aO, hF⟩ := hI
 rw [g2]
 refine dw ?_
 refine Z.f 0 ?_
 refine Z.l aO ?_
 refine aB (fG ag ae hl1) (fun w1 U1 => ?_)
 refine az (lss _ _ _ _) (fun h2 => ?_) (fun h2 => ?_)
 refine aX (aX ?_)
 refine dw ?_
 refine aX ?_
 refine Z.f 0 ?_
 refine aX ?_
 replace aO := U1.af aO
 refine Z.l aO ?_
 refine aX (aX ?_)
 replace ae := ae.ai U1
 replace ag := U1.af ag
 refine aB (iF ag ae hl1 (i := (k : Int))) (fun w3 U3 => ?_)
 refine aX ?_
 refine pK (qX (off := 2) (by kernel_rfl) (by rfl)) (fun h4 => ?_) (fun h4 => ?_)
 refine aX ?_
 refine ak (lV) ?_
 refine aT (aC ?_)
 replace hF := (hF.go0 U1).go0 U3
 replace ae := ae.ai U3
 exact ⟨_, rfl, (by rw [Gs.ag1 hrs (by assumption)]; exact ae), hF⟩
 refine aX ?_
 refine ak (nI) ?_
 refine aT (aJ ?_)
 refine dw ?_
 refine Z.f 0 ?_
 replace aO := U3.af aO
 refine Z.l aO ?_
 refine ak (bG (l := [(0, 1), (1, 1), (2, 1), (3, 1), (4, 1)]) (z := #[Z.u 0, .bool false, .bool false, Z.u 0, Z.u 0]) (cs := (Gs.cv Gs.zc)) (by kernel_rfl) (by rfl)) ?_
 replace ae := ae.ai U3
 replace ag := U3.af ag
 refine aN (jv ag ae hl1 (i := (k : Int)) (x := Gs.zc)) (fun v6 w6 D6 => ?_)
 obtain ⟨rfl, N6, U6⟩ := D6
 have aK := ae
 replace ae := N6
 replace ag := U6.get ag (fun h => Own.aS aK ag (by decide) _ h rfl)
 replace aO := U6.get aO (fun h => Own.aS aK aO (by decide) _ h rfl)
 replace hF := (hF.go0 U1).go0 U3
 replace hF := hF.go U6 (fun i h hs => by exact hs)
 clear aK
 refine ak (dK _ (by omega)) ?_
 exact ⟨⟨k + 1, _, rfl, (by omega), (Gs.ag2 hrs (by omega) (by assumption)), (by rw [Gs.mi]; exact hl1), ae, ag, aO, hF⟩, cnt_lt (by rfl) rfl (by omega)⟩
 refine aQ (aQ (aQ (aQ (aQ (aQ (aQ (aQ (aU (aC ?_)))))))))
 replace ae := ae.ai U1
 replace hF := hF.go0 U1
 exact ⟨_, rfl, (by rw [Gs.ag3 hrs (by omega)]; exact ae), hF⟩
def BrC (m : Nat) (f : Gs.iK → Gs.Br → Gs.Br × Int) (o : Gs.iM) (r c : Int) (A : Option Addr) (n cp bp bb B0 : Nat) (b : Gs.Br) : Prop := ∀ {w : World}, Z.h w bp #[Z.i r, Z.i c, .slice A n cp, Z.i b.cur] 91 → Own B0 w 37 5 (.slice A n cp) (rows Gs.cv b.cs) → Z.h w bb #[Z.p bp, Z.i b.at', Z.u b.lk.b, .bool b.lk.ge, .bool b.lk.st, Z.u b.lk.l, Z.u b.lk.c, .bool b.ld] 229 → Gs.jU w [o] → oX m #[Z.p bb, .agg (Gs.oe o).toArray] w (fun e w' => ∃ v, e = .returned v ∧ v = Z.i (f o.m b).2 ∧ Z.h w' bp #[Z.i r, Z.i c, .slice A n cp, Z.i (f o.m b).1.cur] 91 ∧ Own B0 w' 37 5 (.slice A n cp) (rows Gs.cv (f o.m b).1.cs) ∧ Z.h w' bb #[Z.p bp, Z.i (f o.m b).1.at', Z.u (f o.m b).1.lk.b, .bool (f o.m b).1.lk.ge, .bool (f o.m b).1.lk.st, Z.u (f o.m b).1.lk.l, Z.u (f o.m b).1.lk.c, .bool (f o.m b).1.ld] 229 ∧ aA (fun k => (aH (.slice A n cp) k ∨ k = bp) ∨ k = bb) w w')
theorem adD {r c : Int} {A : Option Addr} {n cp bp bb B0 : Nat} {b : Gs.Br} {w : World} (ag : Z.h w bp #[Z.i r, Z.i c, .slice A n cp, Z.i b.cur] 91) (ae : Own B0 w 37 5 (.slice A n cp) (rows Gs.cv b.cs)) (aO : Z.h w bb #[Z.p bp, Z.i b.at', Z.u b.lk.b, .bool b.lk.ge, .bool b.lk.st, Z.u b.lk.l, Z.u b.lk.c, .bool b.ld] 229) (hB : Gs.Bw r c n b) {o : Gs.iM} (dE : Gs.jU w [o]) (hwo : Gs.yJ o) (hlo : o.ds.length ≤ 100000 ∧ o.ps.length ≤ 100000) (na1 : [o] = [] ∨ ∀ k, Gs.jB [o] k → ¬ aH (.slice A n cp) k) (na2 : [o] = [] ∨ ∀ k, Gs.jB [o] k → k ≠ bp) (na3 : [o] = [] ∨ ∀ k, Gs.jB [o] k → k ≠ bb) :
    oX 189 #[Z.p bb, .agg (Gs.oe o).toArray] w fun e w' => ∃ v, e = .returned v ∧ v = Z.i (Gs.wz o.m b).2 ∧ Z.h w' bp #[Z.i r, Z.i c, .slice A n cp, Z.i (Gs.wz o.m b).1.cur] 91 ∧ Own B0 w' 37 5 (.slice A n cp) (rows Gs.cv (Gs.wz o.m b).1.cs) ∧ Z.h w' bb #[Z.p bp, Z.i (Gs.wz o.m b).1.at', Z.u (Gs.wz o.m b).1.lk.b, .bool (Gs.wz o.m b).1.lk.ge, .bool (Gs.wz o.m b).1.lk.st, Z.u (Gs.wz o.m b).1.lk.l, Z.u (Gs.wz o.m b).1.lk.c, .bool (Gs.wz o.m b).1.ld] 229 ∧ aA (fun k => (aH (.slice A n cp) k ∨ k = bp) ∨ k = bb) w w' := by
 refine Ze.calls ?_
 unfold Ze
 obtain ⟨hW, hat, hlw⟩ := id hB
 obtain ⟨hn, hcw, hcu, hp, hN, hb⟩ := id hW
 obtain ⟨a0, ha0⟩ := Int.eq_ofNat_of_zero_le hat.1
 have ha1 : a0 < n := by omega
 have hF : aA (fun k => (aH (.slice A n cp) k ∨ k = bp) ∨ k = bb) w w := Fr.refl _ _ _
 refine Z.x ((Gs.oe o).toArray) (fun b1 w1 e1 ah _ U1 => ?_)
 refine bM (fun g w' => ∃ (cs1 : List Gs.Cell), (cs1 = (if b.ld = true then (Gs.mD (b.cs.length - b.at'.toNat) b.cs b.at') else b.cs)) ∧ (n = cs1.length) ∧ (Gs.jh cs1) ∧ (Z.h w' bp #[Z.i r, Z.i c, .slice A n cp, Z.i b.cur] 91) ∧ (Own B0 w' 37 5 (.slice A n cp) (rows Gs.cv cs1)) ∧ (Z.h w' bb #[Z.p bp, Z.i b.at', Z.u b.lk.b, .bool b.lk.ge, .bool b.lk.st, Z.u b.lk.l, Z.u b.lk.c, .bool b.ld] 229) ∧ (aA (fun k => (aH (.slice A n cp) k ∨ k = bp) ∨ k = bb) w w')) (fun J1 hJ1 => ?_) (fun gJ1 jT hI => ?_)
 refine dw ?_
 refine Z.f 7 ?_
 replace aO := U1.af aO
 refine pK (kZ (by kernel_rfl) aO (by rfl)) (fun h2 => ?_) (fun h2 => ?_)
 refine aJ ?_
 replace ae := ae.ai U1
 replace ag := U1.af ag
 refine aN (abB (b := b) ag ae aO hB) (fun v3 w3 D3 => ?_)
 obtain ⟨N3, U3⟩ := D3
 have aK := ae
 replace ag := U3.get ag (fun h => Own.aS aK ag (by decide) _ h rfl)
 replace ae := N3
 replace aO := U3.get aO (fun h => Own.aS aK aO (by decide) _ h rfl)
 replace hF := hF.go0 U1
 replace hF := hF.go U3 (fun i h hs => .inl (.inl hs))
 clear aK
 refine hJ1 _ _ ?_
 exact ⟨_, (by (rw [if_pos (by assumption)])), (by (rw [Gs.PT]; exact hn)), (by exact (Gs.OI hcw _ _ _ hcw).1), ag, ae, aO, hF⟩
 refine aC ?_
 refine hJ1 _ _ ?_
 replace ae := ae.ai U1
 replace ag := U1.af ag
 replace hF := hF.go0 U1
 exact ⟨_, (by (rw [if_neg (by simp_all)])), (by exact hn), (by exact hcw), ag, ae, aO, hF⟩
 replace ae := ae.ai U1
 replace ag := U1.af ag
 replace aO := U1.af aO
 replace hF := hF.go0 U1
 obtain ⟨cs1, hc1, hl1, hw1, ag, ae, aO, hF⟩ := hI
 refine bM (fun g w' => (none = Gs.xn (n - a0) cs1 (a0 : Int)) ∧ (Z.h w' bp #[Z.i r, Z.i c, .slice A n cp, Z.i b.cur] 91) ∧ (Own B0 w' 37 5 (.slice A n cp) (rows Gs.cv cs1)) ∧ (Z.h w' bb #[Z.p bp, Z.i b.at', Z.u b.lk.b, .bool b.lk.ge, .bool b.lk.st, Z.u b.lk.l, Z.u b.lk.c, .bool b.ld] 229) ∧ (aA (fun k => (aH (.slice A n cp) k ∨ k = bp) ∨ k = bb) w w')) (fun J2 hJ2 => ?_) (fun gJ2 RF hI => ?_)
 refine dw ?_
 refine Z.f 1 ?_
 refine Z.l aO ?_
 refine ed (fun g w' => ∃ (k : Nat), (g 5 = Z.i (k : Int)) ∧ (k ≤ n) ∧ (Gs.xn (n - a0) cs1 (a0 : Int) = Gs.xn (n - k) cs1 (k : Int)) ∧ (Z.h w' bp #[Z.i r, Z.i c, .slice A n cp, Z.i b.cur] 91) ∧ (Own B0 w' 37 5 (.slice A n cp) (rows Gs.cv cs1)) ∧ (Z.h w' bb #[Z.p bp, Z.i b.at', Z.u b.lk.b, .bool b.lk.ge, .bool b.lk.st, Z.u b.lk.l, Z.u b.lk.c, .bool b.ld] 229) ∧ (aA (fun k => (aH (.slice A n cp) k ∨ k = bp) ∨ k = bb) w w')) (fun g w' => n - (RowKit.intOf (g 5)).toNat) ?_ (fun g3 wl3 hI => ?_)
 exact ⟨a0, (by rw [← ha0]; rfl), (by omega), rfl, ag, ae, aO, hF⟩
 obtain ⟨k, g5, hk, hti, ag, ae, aO, hF⟩ := hI
 rw [g5]
 refine dw ?_
 refine Z.f 0 ?_
 refine Z.l aO ?_
 refine aB (fG ag ae hl1) (fun w4 U4 => ?_)
 refine az (lss _ _ _ _) (fun h5 => ?_) (fun h5 => ?_)
 refine aJ ?_
 refine dw ?_
 refine Z.f 0 ?_
 replace aO := U4.af aO
 refine Z.l aO ?_
 replace ae := ae.ai U4
 replace ag := U4.af ag
 refine aB (iF ag ae hl1 (i := (k : Int))) (fun w6 U6 => ?_)
 refine Z.n ((Gs.cv Gs.zc).toArray) (fun b7 w7 e7 kW _ U7 => ?_)
 replace ag := U6.af ag
 have zh : bp ≠ b7 := by have := au ag; omega
 replace ae := ae.ai U6
 have wK := ae.apart e7
 replace aO := U6.af aO
 have KP : bb ≠ b7 := by have := au aO; omega
 replace hF := (hF.go0 U4).go0 U6
 have uH : w.heap.size ≤ b7 := by have := hF.size; omega
 refine Z.t 5 ((Gs.cv (Gs.bV cs1 (k : Int))).toArray) (by (simp [Value.cells, Value.oneCell', Gs.cv, Gs.fv, Gs.ie, Gs.pe, Gs.oe, Gs.cO, Gs.fe, Gs.fM, Gs.ce, Gs.dZ]; done)) kW (fun w8 kW _ U8 => ?_)
 refine Z.f 2 ?_
 refine pK (kZ (by kernel_rfl) kW (by rfl)) (fun h9 => ?_) (fun h9 => ?_)
 refine aX ?_
 refine Z.f 0 ?_
 refine aX ?_
 refine Z.l kW ?_
 refine aX ?_
 refine dQ (mP (Gs.sG hw1 _)) (fun w10 aY h10 => ?_) (fun w10 aY h10 => ?_)
 simp only [Z.d, Z.c] at h10
 refine aX ?_
 refine ak (lV) ?_
 refine aT (aC ?_)
 refine ak (dK _ (by omega)) ?_
 replace ae := ((ae.ai U7).aF U8 wK).ai aY
 replace ag := aY.af (U8.aj (U7.af ag) zh)
 replace aO := aY.af (U8.aj (U7.af aO) KP)
 replace hF := ((hF.go0 U7).go1 U8 uH).go0 aY
 exact ⟨⟨k + 1, rfl, (by omega), (hti.trans (Gs.abC rfl (by omega) (by rintro ⟨h1, h2⟩; (unfold Gs.qI at h2; have := of_decide_eq_false h2; contradiction)))), ag, ae, aO, hF⟩, cnt_lt (by rfl) rfl (by omega)⟩
 simp only [Z.d, Z.c] at h10
 refine aX ?_
 refine ak (nI) ?_
 refine aT (aJ ?_)
 refine dw ?_
 refine Z.f 0 ?_
 replace aO := aY.af (U8.aj (U7.af aO) KP)
 refine Z.l aO ?_
 replace ae := ((ae.ai U7).aF U8 wK).ai aY
 replace ag := aY.af (U8.aj (U7.af ag) zh)
 refine aB (jS ag ae hl1) (fun nR bK => ?_)
 refine aB (mJ (i := (k : Int)) (j := 1)) (fun w12 di => ?_)
 rw [hN, Gs.rO (by omega)]
 refine dw ?_
 refine Z.f 1 ?_
 replace aO := di.af (bK.af aO)
 refine Z.s aO (fun vY aO _ dI => ?_)
 replace ae := (ae.ai bK).ai di
 replace ae := ae.aF dI (Own.aS ae (by assumption) (by decide))
 replace ag := di.af (bK.af ag)
 replace ag := dI.aj ag (by exact dW (by assumption) (by assumption) (by decide))
 replace hF := ((((hF.go0 U7).go1 U8 uH).go0 aY).go0 bK).go0 di
 replace hF := hF.go dI (fun i _ h => .inr h)
 rw [Gs.WM hc1 (Gs.ai8 ha0 hl1 hti (by omega) (by assumption) (by unfold Gs.qI; exact decide_eq_false (by assumption)))]; exact ⟨_, rfl, rfl, ag, ae, aO, hF⟩
 refine aQ (aQ (aQ (aQ (aU (aC ?_)))))
 refine ak (dK _ (by omega)) ?_
 replace ae := (ae.ai U7).aF U8 wK
 replace ag := U8.aj (U7.af ag) zh
 replace aO := U8.aj (U7.af aO) KP
 replace hF := (hF.go0 U7).go1 U8 uH
 exact ⟨⟨k + 1, rfl, (by omega), (hti.trans (Gs.abC rfl (by omega) (by rintro ⟨h1, h2⟩; (simp_all; done)))), ag, ae, aO, hF⟩, cnt_lt (by rfl) rfl (by omega)⟩
 refine aC ?_
 refine hJ2 _ _ ?_
 replace ae := ae.ai U4
 replace ag := U4.af ag
 replace aO := U4.af aO
 replace hF := hF.go0 U4
 exact ⟨(hti.trans (Gs.ai9 rfl (by omega))).symm, ag, ae, aO, hF⟩
 obtain ⟨htn, ag, ae, aO, hF⟩ := hI
 refine dw ?_
 refine Z.f 1 ?_
 refine Z.s aO (fun uG aO _ bW => ?_)
 replace ae := ae.aF bW (Own.aS ae (by assumption) (by decide))
 replace ag := bW.aj ag (by exact dW (by assumption) (by assumption) (by decide))
 replace hF := hF.go bW (fun i _ h => .inr h)
 rw [Gs.WM hc1 (x := 0) (by rw [ha0]; exact Gs.abD (by rw [← hl1]; exact htn))]; exact ⟨_, rfl, rfl, ag, ae, aO, hF⟩
theorem VC {r c : Int} {A : Option Addr} {n cp bp bb B0 : Nat} {b : Gs.Br} {w : World} (ag : Z.h w bp #[Z.i r, Z.i c, .slice A n cp, Z.i b.cur] 91) (ae : Own B0 w 37 5 (.slice A n cp) (rows Gs.cv b.cs)) (aO : Z.h w bb #[Z.p bp, Z.i b.at', Z.u b.lk.b, .bool b.lk.ge, .bool b.lk.st, Z.u b.lk.l, Z.u b.lk.c, .bool b.ld] 229) (hB : Gs.Bw r c n b) {o : Gs.iM} (dE : Gs.jU w [o]) (hwo : Gs.yJ o) (hlo : o.ds.length ≤ 100000 ∧ o.ps.length ≤ 100000) (na1 : [o] = [] ∨ ∀ k, Gs.jB [o] k → ¬ aH (.slice A n cp) k) (na2 : [o] = [] ∨ ∀ k, Gs.jB [o] k → k ≠ bp) (na3 : [o] = [] ∨ ∀ k, Gs.jB [o] k → k ≠ bb) :
    oX 190 #[Z.p bb, .agg (Gs.oe o).toArray] w fun e w' => ∃ v, e = .returned v ∧ v = Z.i (Gs.vI o.m b).2 ∧ Z.h w' bp #[Z.i r, Z.i c, .slice A n cp, Z.i (Gs.vI o.m b).1.cur] 91 ∧ Own B0 w' 37 5 (.slice A n cp) (rows Gs.cv (Gs.vI o.m b).1.cs) ∧ Z.h w' bb #[Z.p bp, Z.i (Gs.vI o.m b).1.at', Z.u (Gs.vI o.m b).1.lk.b, .bool (Gs.vI o.m b).1.lk.ge, .bool (Gs.vI o.m b).1.lk.st, Z.u (Gs.vI o.m b).1.lk.l, Z.u (Gs.vI o.m b).1.lk.c, .bool (Gs.vI o.m b).1.ld] 229 ∧ aA (fun k => (aH (.slice A n cp) k ∨ k = bp) ∨ k = bb) w w' := by
 refine Zf.calls ?_
 unfold Zf
 obtain ⟨hW, hat, hlw⟩ := id hB
 obtain ⟨hn, hcw, hcu, hp, hN, hb⟩ := id hW
 obtain ⟨hok, hob, hod, hop⟩ := id hwo
 have hF : aA (fun k => (aH (.slice A n cp) k ∨ k = bp) ∨ k = bb) w w := Fr.refl _ _ _
 refine Z.x ((Gs.oe o).toArray) (fun b1 w1 e1 ah _ U1 => ?_)
 have kX : bp ≠ b1 := by have := au ag; omega
 have Cf : bb ≠ b1 := by have := au aO; omega
 refine dw ?_
 refine Z.f 1 ?_
 replace aO := U1.af aO
 refine Z.l aO ?_
 refine Z.b 6 ((Gs.oe o).toArray) ah ?_
 replace ae := ae.ai U1
 replace dE := dE.ai U1
 replace ag := U1.af ag
 refine aN (IQ ag ae aO hB dE hwo hlo na1 na2 na3) (fun v2 w2 D2 => ?_)
 have aK := ae
 replace hF := hF.go0 U1
 have qF2 := hF.size
 obtain ⟨rfl, ag, ae, aO, U2⟩ := D2
 replace ah := U2.get ah (fun hs => by rcases hs with (hs | hs) | hs <;> first | (first | exact Own.aS aK ah (by decide) _ hs rfl | (have := Own.ge aK hs; omega)) | (exact absurd hs (Ne.symm kX)) | (exact absurd hs (Ne.symm Cf)))
 replace hF := hF.go U2 (fun i hi hs => by exact hs)
 clear aK
 refine az (kR _ _ _ _ _) (fun h3 => ?_) (fun h3 => ?_)
 refine aJ ?_
 rw [Gs.WN (by assumption)] at ag ae aO ⊢; rw [Gs.aja (o := o.m) (b := b) (Gs.KQ (by assumption))]; exact ⟨_, rfl, rfl, ag, ae, aO, hF⟩
 refine aC ?_
 refine dS (S := no) (fun w5 U5 => ?_)
 have hj := Gs.WO (o := o.m) (b := b) (by assumption)
 replace ae := ae.ai U5
 replace aO := U5.af aO
 replace ag := U5.af ag
 rw [Gs.Js hj] at ag ae aO
 dsimp only at ag ae aO
 refine fV ?_
 refine Z.g 0 ?_
 refine Z.m aO ?_
 refine fV ?_
 refine Z.g 1 ?_
 refine Z.m aO ?_
 refine Z.g 2 ?_
 replace ah := U5.af ah
 refine Z.m ah ?_
 refine Z.g 3 ?_
 refine Z.m ah ?_
 refine fO (fun w' hw' => by have aO := hw'.af aO; exact IM (b := ({ b with at' := o.a } : Gs.Br)) aO (x := o.b) (g := o.ge)) ?_
 refine aI (fun w7 U7 => ?_)
 replace ae := ae.ai U7
 replace ag := U7.af ag
 refine aN (Iq ag ae hn (i := b.at') (j := o.a) (x := Gs.vU b o.b o.ge) hN) (fun v8 w8 D8 => ?_)
 obtain ⟨rfl, N8, U8⟩ := D8
 have aK := ae
 replace aO := U7.af aO
 replace aO := U8.get aO (fun h => Own.aS aK aO (by decide) _ h rfl)
 replace ag := U8.get ag (fun h => Own.aS aK ag (by decide) _ h rfl)
 replace ae := N8
 replace hF := (hF.go0 U5).go0 U7
 replace hF := hF.go U8 (fun i h hs => .inl (.inl hs))
 clear aK
 rw [show Gs.aZ r c = (b.cs.length : Int) by rw [hN, ← hn]] at ae
 refine aI (fun w9 U9 => ?_)
 replace ae := ae.ai U9
 replace aO := U9.af aO
 replace ag := U9.af ag
 replace hF := hF.go0 U9
 rw [Gs.ajb (o := o.m) (b := b) hj]; exact ⟨_, rfl, rfl, ag, ae, aO, hF⟩
theorem abE {r c : Int} {A : Option Addr} {n cp bp bb B0 : Nat} {b : Gs.Br} {w : World} (ag : Z.h w bp #[Z.i r, Z.i c, .slice A n cp, Z.i b.cur] 91) (ae : Own B0 w 37 5 (.slice A n cp) (rows Gs.cv b.cs)) (aO : Z.h w bb #[Z.p bp, Z.i b.at', Z.u b.lk.b, .bool b.lk.ge, .bool b.lk.st, Z.u b.lk.l, Z.u b.lk.c, .bool b.ld] 229) (hB : Gs.Bw r c n b) {o : Gs.iM} (dE : Gs.jU w [o]) (hwo : Gs.yJ o) (hlo : o.ds.length ≤ 100000 ∧ o.ps.length ≤ 100000) (na1 : [o] = [] ∨ ∀ k, Gs.jB [o] k → ¬ aH (.slice A n cp) k) (na2 : [o] = [] ∨ ∀ k, Gs.jB [o] k → k ≠ bp) (na3 : [o] = [] ∨ ∀ k, Gs.jB [o] k → k ≠ bb) :
    oX 191 #[Z.p bb, .agg (Gs.oe o).toArray] w fun e w' => ∃ v, e = .returned v ∧ v = Z.i (Gs.ru o.m b).2 ∧ Z.h w' bp #[Z.i r, Z.i c, .slice A n cp, Z.i (Gs.ru o.m b).1.cur] 91 ∧ Own B0 w' 37 5 (.slice A n cp) (rows Gs.cv (Gs.ru o.m b).1.cs) ∧ Z.h w' bb #[Z.p bp, Z.i (Gs.ru o.m b).1.at', Z.u (Gs.ru o.m b).1.lk.b, .bool (Gs.ru o.m b).1.lk.ge, .bool (Gs.ru o.m b).1.lk.st, Z.u (Gs.ru o.m b).1.lk.l, Z.u (Gs.ru o.m b).1.lk.c, .bool (Gs.ru o.m b).1.ld] 229 ∧ aA (fun k => (aH (.slice A n cp) k ∨ k = bp) ∨ k = bb) w w' := by
 refine Zg.calls ?_
 unfold Zg
 obtain ⟨hW, hat, hlw⟩ := id hB
 obtain ⟨hn, hcw, hcu, hp, hN, hb⟩ := id hW
 have xy := au ag
 have l9 := Own.lt ae
 have lt_h_bb := au aO
 have ajc := dE.lt
 have hF : aA (fun k => (aH (.slice A n cp) k ∨ k = bp) ∨ k = bb) w w := Fr.refl _ _ _
 refine Z.x _ (fun b1 w1 e1 ah _ U1 => ?_)
 have kX : bp ≠ b1 := by have := au ag; omega
 have iq := ae.apart e1
 have Cf : bb ≠ b1 := by have := au aO; omega
 have amj := dE.apart e1
 have bZ : w.heap.size ≤ b1 := by have := hF.size; omega
 refine Z.x ((Gs.oe o).toArray) (fun b2 w2 e2 ax _ U2 => ?_)
 replace ag := U1.af ag
 have eU : bp ≠ b2 := by have := au ag; omega
 replace ae := ae.ai U1
 have dF := ae.apart e2
 replace aO := U1.af aO
 have adE : bb ≠ b2 := by have := au aO; omega
 replace dE := dE.ai U1
 have amk := dE.apart e2
 have lI : b1 ≠ b2 := by have := au ah; omega
 replace hF := hF.go0 U1
 have eQ : w.heap.size ≤ b2 := by have := hF.size; omega
 replace ah := U2.af ah
 refine Z.l ah ?_
 refine dw ?_
 refine Z.f 1 ?_
 replace aO := U2.af aO
 refine Z.l aO ?_
 refine Z.l ah ?_
 refine Z.b 6 ((Gs.oe o).toArray) ax ?_
 replace ae := ae.ai U2
 replace dE := dE.ai U2
 replace ag := U2.af ag
 refine aN (IQ ag ae aO hB dE hwo hlo na1 na2 na3) (fun v3 w3 D3 => ?_)
 have aK := ae
 replace hF := hF.go0 U2
 have qF3 := hF.size
 obtain ⟨rfl, ag, ae, aO, U3⟩ := D3
 replace dE := dE.dX U3 (na1.elim .inl fun h0 => na2.elim .inl fun h1 => na3.elim .inl fun h2 => .inr fun k hk hs => by rcases hs with (hs | hs) | hs <;> first | exact h0 k hk hs | exact h1 k hk hs | exact h2 k hk hs)
 replace ah := U3.get ah (fun hs => by rcases hs with (hs | hs) | hs <;> first | (first | exact Own.aS aK ah (by decide) _ hs rfl | (have := Own.ge aK hs; omega)) | (exact absurd hs (Ne.symm kX)) | (exact absurd hs (Ne.symm Cf)))
 replace ax := U3.get ax (fun hs => by rcases hs with (hs | hs) | hs <;> first | (first | exact Own.aS aK ax (by decide) _ hs rfl | (have := Own.ge aK hs; omega)) | (exact absurd hs (Ne.symm eU)) | (exact absurd hs (Ne.symm adE)))
 replace hF := hF.go U3 (fun i hi hs => by exact hs)
 clear aK
 refine az (kR _ _ _ _ _) (fun h4 => ?_) (fun h4 => ?_)
 refine aJ ?_
 show lQ [] _ _
 rw [Gs.WN (by assumption)] at ag ae aO ⊢; rw [Gs.ag4 (o := o.m) (b := b) (Gs.KQ (by assumption))]; exact ⟨_, rfl, rfl, ag, ae, aO, hF⟩
 refine aC ?_
 refine bM (fun g w' => ∃ (D2 : Nat), (g 1000000 = mkV D2 undef) ∧ (w.heap.size ≤ D2) ∧ (w'.heap[D2]? = some (.deferred (some []))) ∧ (¬ (o.a < 0 ∨ (b.cs.length : Int) ≤ o.a)) ∧ (Z.h w' bp #[Z.i r, Z.i c, .slice A n cp, Z.i b.cur] 91) ∧ (Own B0 w' 37 5 (.slice A n cp) (rows Gs.cv (Gs.o8 b.cs (Gs.qB (Gs.aZ r c) b.at' o.a)))) ∧ (Z.h w' bb #[Z.p bp, Z.i ({ b with at' := o.a } : Gs.Br).at', Z.u ({ b with at' := o.a } : Gs.Br).lk.b, .bool ({ b with at' := o.a } : Gs.Br).lk.ge, .bool ({ b with at' := o.a } : Gs.Br).lk.st, Z.u ({ b with at' := o.a } : Gs.Br).lk.l, Z.u ({ b with at' := o.a } : Gs.Br).lk.c, .bool ({ b with at' := o.a } : Gs.Br).ld] 229) ∧ (aA (fun k => (aH (.slice A n cp) k ∨ k = bp) ∨ k = bb) w w')) (fun J1 hJ1 => ?_) (fun gJ1 jT hI => ?_)
 refine dS (S := no) (fun w7 U7 => ?_)
 replace dE := dE.ai U7
 replace ae := ae.ai U7
 replace ah := U7.af ah
 replace ax := U7.af ax
 replace aO := U7.af aO
 replace ag := U7.af ag
 replace hF := hF.go0 U7
 have hj := Gs.WO (o := o.m) (b := b) (by assumption)
 rw [Gs.Js hj] at ag ae aO
 dsimp only at ag ae aO
 refine Z.m ah ?_
 refine fV ?_
 refine Z.g 0 ?_
 refine Z.m aO ?_
 refine fO (fun w' hw' => by have ag := hw'.af ag; have ae := ae.ai hw'; exact jS ag ae hn) ?_
 refine Z.m ah ?_
 refine fV ?_
 refine Z.g 1 ?_
 refine Z.m aO ?_
 refine aI (fun w9 U9 => ?_)
 refine aN (EJ (r := r) (c := c) (i := b.at') (j := o.a)) (fun v10 w10 D10 => ?_)
 obtain ⟨b3_28, b4_28, b5_28, rfl, g3_28, g4_28, g5_28, kH, kJ, kK, aY⟩ := D10
 replace dE := dE.ai U9
 have ajd := (dE.lt).ne (b := b3_28) (by omega)
 replace ah := U9.af ah
 have akw : b1 ≠ b3_28 := by have := au ah; omega
 replace ax := U9.af ax
 have akx : b2 ≠ b3_28 := by have := au ax; omega
 replace aO := U9.af aO
 have aky : bb ≠ b3_28 := by have := au aO; omega
 replace ag := U9.af ag
 have akz : bp ≠ b3_28 := by have := au ag; omega
 replace ae := ae.ai U9
 have OJ : ∀ k, aH _ k → k ≠ b3_28 := fun k hk => by have := (Own.ge ae hk).2; omega
 replace hF := hF.go0 U9
 have ank : w.heap.size ≤ b3_28 := by have := hF.size; omega
 have aje := (dE.lt).ne (b := b4_28) (by omega)
 have akA : b1 ≠ b4_28 := by have := au ah; omega
 have akB : b2 ≠ b4_28 := by have := au ax; omega
 have akC : bb ≠ b4_28 := by have := au aO; omega
 have akD : bp ≠ b4_28 := by have := au ag; omega
 have OL : ∀ k, aH _ k → k ≠ b4_28 := fun k hk => by have := (Own.ge ae hk).2; omega
 have anl : w.heap.size ≤ b4_28 := by have := hF.size; omega
 have ajf := (dE.lt).ne (b := b5_28) (by omega)
 have akE : b1 ≠ b5_28 := by have := au ah; omega
 have akF : b2 ≠ b5_28 := by have := au ax; omega
 have akG : bb ≠ b5_28 := by have := au aO; omega
 have akH : bp ≠ b5_28 := by have := au ag; omega
 have OM : ∀ k, aH _ k → k ≠ b5_28 := fun k hk => by have := (Own.ge ae hk).2; omega
 have anm : w.heap.size ≤ b5_28 := by have := hF.size; omega
 refine aI (fun nR bK => ?_)
 refine tJ (by kernel_rfl) (fun w12 l2 D2 Rdy2 Bsy2 Dn2 y2 eD el bg bz lp1 lp2 lp3 sz12 di hY => ?_)
 have lp2_2 := lp2
 replace dE := (dE.ai aY).ai bK
 have aml := (dE.lt).ne (b := D2) (by omega)
 have amm := (dE.lt).ne (b := l2) (by omega)
 replace ah := bK.af (aY.af ah)
 have SH : b1 ≠ D2 := by have := au ah; omega
 have iD : b1 ≠ l2 := by have := au ah; omega
 replace ax := bK.af (aY.af ax)
 have tN : b2 ≠ D2 := by have := au ax; omega
 have gq : b2 ≠ l2 := by have := au ax; omega
 replace aO := bK.af (aY.af aO)
 have ann : bb ≠ D2 := by have := au aO; omega
 have Gf : bb ≠ l2 := by have := au aO; omega
 replace ag := bK.af (aY.af ag)
 have SG : bp ≠ D2 := by have := au ag; omega
 have ig : bp ≠ l2 := by have := au ag; omega
 replace ae := (ae.ai aY).ai bK
 have rP : ∀ k, aH _ k → k ≠ D2 := fun k hk => by have := (Own.ge ae hk).2; omega
 have eH : ∀ k, aH _ k → k ≠ l2 := fun k hk => by have := (Own.ge ae hk).2; omega
 replace kH := bK.af kH
 have akI : b3_28 ≠ D2 := by have := au kH; omega
 have zx : b3_28 ≠ l2 := by have := au kH; omega
 replace kJ := bK.af kJ
 have akJ : b4_28 ≠ D2 := by have := au kJ; omega
 have zy : b4_28 ≠ l2 := by have := au kJ; omega
 replace kK := bK.af kK
 have akK : b5_28 ≠ D2 := by have := au kK; omega
 have zA : b5_28 ≠ l2 := by have := au kK; omega
 replace hF := (hF.go0 aY).go0 bK
 have nz : w.heap.size ≤ D2 := by have := hF.size; omega
 have jC : w.heap.size ≤ l2 := by have := hF.size; omega
 have fB : D2 ≠ l2 := by omega
 replace ae := ae.ai di
 replace ah := di.af ah
 replace aO := di.af aO
 replace ag := di.af ag
 replace kH := di.af kH
 replace kJ := di.af kJ
 replace kK := di.af kK
 replace hF := hF.go0 di
 refine Calls.mono (Ci (b3 := b3_28) (b4 := b4_28) (b5 := b5_28) (J := (fun (k : Nat) (w' : World) => (Z.h w' bp #[Z.i r, Z.i c, .slice A n cp, Z.i b.cur] 91) ∧ (Own B0 w' 37 5 (.slice A n cp) (rows Gs.cv (Gs.o8 b.cs ((Gs.qB (Gs.aZ r c) b.at' o.a).take k)))) ∧ (Z.h w' bb #[Z.p bp, Z.i ({ b with at' := o.a } : Gs.Br).at', Z.u ({ b with at' := o.a } : Gs.Br).lk.b, .bool ({ b with at' := o.a } : Gs.Br).lk.ge, .bool ({ b with at' := o.a } : Gs.Br).lk.st, Z.u ({ b with at' := o.a } : Gs.Br).lk.l, Z.u ({ b with at' := o.a } : Gs.Br).lk.c, .bool ({ b with at' := o.a } : Gs.Br).ld] 229) ∧ (Z.h w' b1 #[Z.p bb] 227) ∧ (Z.h w' b3_28 #[Z.i r, Z.i c] 32) ∧ (Z.h w' b4_28 #[Z.i b.at'] 3) ∧ (Z.h w' b5_28 #[Z.i o.a] 3) ∧ (w'.heap[D2]? = some (.deferred (some []))) ∧ (w'.heap[l2]? = some Rdy2) ∧ (aA (fun k => (aH (.slice A n cp) k ∨ k = bp) ∨ k = bb) w w'))) (X := (fun _ => False)) (fun _ w' hJ => by obtain ⟨ag, ae, aO, ah, kH, kJ, kK, bg, bz, hF⟩ := hJ; exact ⟨kH, kJ, kK⟩) (fun _ w' w'' hJ U' => by obtain ⟨ag, ae, aO, ah, kH, kJ, kK, bg, bz, hF⟩ := hJ; exact ⟨U'.af ag, ae.ai U', U'.af aO, U'.af ah, U'.af kH, U'.af kJ, U'.af kK, U'.af bg, U'.af bz, hF.go0 U'⟩) ?_ ?_) ?_
 intro k qK xk hx hI
 obtain ⟨ag, ae, aO, ah, kH, kJ, kK, bg, bz, hF⟩ := hI
 have hwk := Gs.EK hcw ((Gs.qB (Gs.aZ r c) b.at' o.a).take k)
 have hlk := hn.trans hwk.2.symm
 refine hY [Z.i xk] _ _ rfl bz ?_
 simp only [List.getD_cons_zero, List.getD_cons_succ]
 refine wE bz (fun vY bz _ dI => ?_)
 replace ah := dI.aj ah iD
 refine Z.l ah ?_
 refine dw ?_
 refine Z.f 0 ?_
 replace aO := dI.aj aO Gf
 refine Z.l aO ?_
 replace ae := ae.aF dI eH
 replace ag := dI.aj ag ig
 refine dQ (nJ ag ae hlk hN hb hwk.1 (i := xk)) (fun sO dC h14 => ?_) (fun sO dC h14 => ?_)
 refine aJ ?_
 replace ah := dC.af ah
 refine Z.l ah ?_
 refine dw ?_
 refine Z.f 0 ?_
 replace aO := dC.af aO
 refine Z.l aO ?_
 refine ak (bG (l := [(0, 1), (1, 1), (2, 1), (3, 1), (4, 1)]) (z := #[Z.u 0, .bool false, .bool false, Z.u 0, Z.u 0]) (cs := (Gs.cv Gs.zc)) (by kernel_rfl) (by rfl)) ?_
 replace ae := ae.ai dC
 replace ag := dC.af ag
 refine aN (jv ag ae hlk (i := xk) (x := Gs.zc)) (fun v15 uG D15 => ?_)
 obtain ⟨rfl, N15, bW⟩ := D15
 have aK := ae
 replace ag := bW.get ag (fun h => Own.aS aK ag (by decide) _ h rfl)
 replace ae := N15
 replace aO := bW.get aO (fun h => Own.aS aK aO (by decide) _ h rfl)
 replace ah := bW.get ah (fun h => iq _ h rfl)
 replace kH := dC.af (dI.aj kH zx)
 replace kH := bW.get kH (fun h => OJ _ h rfl)
 replace kJ := dC.af (dI.aj kJ zy)
 replace kJ := bW.get kJ (fun h => OL _ h rfl)
 replace kK := dC.af (dI.aj kK zA)
 replace kK := bW.get kK (fun h => OM _ h rfl)
 replace bg := dC.af (dI.aj bg fB)
 replace bg := bW.get bg (fun h => rP _ h rfl)
 replace bz := dC.af bz
 replace bz := bW.get bz (fun h => eH _ h rfl)
 replace hF := (hF.go1 dI jC).go0 dC
 replace hF := hF.go bW (fun i h hs => .inl (.inl hs))
 clear aK
 refine rM bz (fun w16 bz _ bQ => ?_)
 replace ae := ae.aF bQ eH
 replace ag := bQ.aj ag ig
 replace aO := bQ.aj aO Gf
 replace ah := bQ.aj ah iD
 replace kH := bQ.aj kH zx
 replace kJ := bQ.aj kJ zy
 replace kK := bQ.aj kK zA
 replace bg := bQ.aj bg fB
 replace hF := hF.go1 bQ jC
 exact ⟨ag, (by rw [Gs.AY hx]; (rw [if_pos (by assumption)]; exact ae)), aO, ah, kH, kJ, kK, bg, bz, hF⟩
 refine aC ?_
 replace bz := dC.af bz
 refine rM bz (fun uS bz _ df => ?_)
 replace kH := df.aj (dC.af (dI.aj kH zx)) zx
 replace kJ := df.aj (dC.af (dI.aj kJ zy)) zy
 replace kK := df.aj (dC.af (dI.aj kK zA)) zA
 replace bg := df.aj (dC.af (dI.aj bg fB)) fB
 replace hF := ((hF.go1 dI jC).go0 dC).go1 df jC
 replace ae := (ae.ai dC).aF df eH
 replace ag := df.aj (dC.af ag) ig
 replace aO := df.aj (dC.af aO) Gf
 replace ah := df.aj (dC.af ah) iD
 exact ⟨ag, (by rw [Gs.AY hx]; (rw [if_neg (Bool.eq_false_iff.1 (by assumption))]; exact ae)), aO, ah, kH, kJ, kK, bg, bz, hF⟩
 exact ⟨ag, (by simpa [Gs.o8] using ae), aO, ah, kH, kJ, kK, bg, bz, hF⟩
 rintro e wE2 ⟨hv, hI | hI⟩
 obtain ⟨ag, ae, aO, ah, kH, kJ, kK, bg, bz, hF⟩ := hI
 refine ⟨hv, .inl ⟨bz, fun xx _ dM => ?_⟩⟩
 refine hJ1 _ _ ?_
 replace ae := ae.aF dM eH
 replace ag := dM.aj ag ig
 replace aO := dM.aj aO Gf
 replace bg := dM.aj bg fB
 replace hF := hF.go1 dM jC
 exact ⟨_, (by rfl), nz, bg, hj, ag, (by rw [List.take_of_length_le (Nat.le_refl _)] at ae; exact ae), aO, hF⟩
 exact hI.elim
 obtain ⟨D2, g1000000, nz, bg, hj, ag, ae, aO, hF⟩ := hI
 rw [g1000000]
 refine leave1 bg (fun xu _ dR => ?_)
 replace ae := ae.aF dR (Own.kT ae (by assumption))
 replace ag := dR.aj ag (by omega)
 replace aO := dR.aj aO (by omega)
 replace hF := hF.go1 dR nz
 rw [Gs.ag5 (o := o.m) (b := b) hj, show (b.cs.length : Int) = Gs.aZ r c by rw [hN, ← hn]]; exact ⟨_, rfl, rfl, ag, ae, aO, hF⟩
set_option maxHeartbeats 1000000 in
theorem ag6 {r c : Int} {A : Option Addr} {n cp bp bb B0 : Nat} {b : Gs.Br} {w : World} (ag : Z.h w bp #[Z.i r, Z.i c, .slice A n cp, Z.i b.cur] 91) (ae : Own B0 w 37 5 (.slice A n cp) (rows Gs.cv b.cs)) (aO : Z.h w bb #[Z.p bp, Z.i b.at', Z.u b.lk.b, .bool b.lk.ge, .bool b.lk.st, Z.u b.lk.l, Z.u b.lk.c, .bool b.ld] 229) (hB : Gs.Bw r c n b) {o : Gs.iM} (dE : Gs.jU w [o]) (hwo : Gs.yJ o) (hlo : o.ds.length ≤ 100000 ∧ o.ps.length ≤ 100000) (na1 : [o] = [] ∨ ∀ k, Gs.jB [o] k → ¬ aH (.slice A n cp) k) (na2 : [o] = [] ∨ ∀ k, Gs.jB [o] k → k ≠ bp) (na3 : [o] = [] ∨ ∀ k, Gs.jB [o] k → k ≠ bb) :
    oX 171 #[Z.p bb, .agg (Gs.oe o).toArray] w fun e w' => ∃ v, e = .returned v ∧ v = Z.i (Gs.sV o.m b).2 ∧ Z.h w' bp #[Z.i r, Z.i c, .slice A n cp, Z.i (Gs.sV o.m b).1.cur] 91 ∧ Own B0 w' 37 5 (.slice A n cp) (rows Gs.cv (Gs.sV o.m b).1.cs) ∧ Z.h w' bb #[Z.p bp, Z.i (Gs.sV o.m b).1.at', Z.u (Gs.sV o.m b).1.lk.b, .bool (Gs.sV o.m b).1.lk.ge, .bool (Gs.sV o.m b).1.lk.st, Z.u (Gs.sV o.m b).1.lk.l, Z.u (Gs.sV o.m b).1.lk.c, .bool (Gs.sV o.m b).1.ld] 229 ∧ aA (fun k => (aH (.slice A n cp) k ∨ k = bp) ∨ k = bb) w w' := by
 refine Y2.calls ?_
 unfold Y2
 obtain ⟨hW, hat, hlw⟩ := id hB
 obtain ⟨hn, hcw, hcu, hp, hN, hb⟩ := id hW
 have hF : aA (fun k => (aH (.slice A n cp) k ∨ k = bp) ∨ k = bb) w w := Fr.refl _ _ _
 refine Z.x ((Gs.oe o).toArray) (fun b1 w1 e1 ah _ U1 => ?_)
 have kX : bp ≠ b1 := by have := au ag; omega
 have Cf : bb ≠ b1 := by have := au aO; omega
 refine bM (fun g w' => ∃ (m : Nat) (f : Gs.iK → Gs.Br → Gs.Br × Int), (g 5 = .func (.func m) #[] #[]) ∧ (((Tryz.prog.funcs[m]?).any fun fn => fn.body.isSome && !(fn.name == "runtime.NumGoroutine")) = true) ∧ (Gs.nX o.m.k = some f) ∧ (BrC m f o r c A n cp bp bb B0 b) ∧ (Z.h w' bp #[Z.i r, Z.i c, .slice A n cp, Z.i b.cur] 91) ∧ (Own B0 w' 37 5 (.slice A n cp) (rows Gs.cv b.cs)) ∧ (Z.h w' bb #[Z.p bp, Z.i b.at', Z.u b.lk.b, .bool b.lk.ge, .bool b.lk.st, Z.u b.lk.l, Z.u b.lk.c, .bool b.ld] 229) ∧ (Gs.jU w' [o]) ∧ (Z.h w' b1 ((Gs.oe o).toArray) 209) ∧ (aA (fun k => (aH (.slice A n cp) k ∨ k = bp) ∨ k = bb) w w')) (fun J1 hJ1 => ?_) (fun gJ1 jT hI => ?_)
 refine Z.f 0 ?_
 refine Z.l ah ?_
 refine az (cZ _ _ _ _ _) (fun h2 => ?_) (fun h2 => ?_)
 refine aJ ?_
 refine hJ1 _ _ ?_
 replace ae := ae.ai U1
 replace dE := dE.ai U1
 replace ag := U1.af ag
 replace aO := U1.af aO
 replace hF := hF.go0 U1
 exact ⟨182, Gs.wU, (by rfl), by kernel_rfl, (by show Gs.nX o.k = some _; unfold Gs.nX; repeat (first | rw [if_pos (by omega)] | rw [if_neg (by omega)])), (fun h1 h2 h3 h4 => abx h1 h2 h3 hB h4 hwo hlo na1 na2 na3), ag, ae, aO, dE, ah, hF⟩
 refine aC ?_
 refine az (cZ _ _ _ _ _) (fun h3 => ?_) (fun h3 => ?_)
 refine aJ ?_
 refine hJ1 _ _ ?_
 replace ae := ae.ai U1
 replace dE := dE.ai U1
 replace ag := U1.af ag
 replace aO := U1.af aO
 replace hF := hF.go0 U1
 exact ⟨183, Gs.wV, (by rfl), by kernel_rfl, (by show Gs.nX o.k = some _; unfold Gs.nX; repeat (first | rw [if_pos (by omega)] | rw [if_neg (by omega)])), (fun h1 h2 h3 h4 => TU h1 h2 h3 hB h4 hwo hlo na1 na2 na3), ag, ae, aO, dE, ah, hF⟩
 refine aC ?_
 refine az (cZ _ _ _ _ _) (fun h4 => ?_) (fun h4 => ?_)
 refine aJ ?_
 refine hJ1 _ _ ?_
 replace ae := ae.ai U1
 replace dE := dE.ai U1
 replace ag := U1.af ag
 replace aO := U1.af aO
 replace hF := hF.go0 U1
 exact ⟨184, Gs.o7, (by rfl), by kernel_rfl, (by show Gs.nX o.k = some _; unfold Gs.nX; repeat (first | rw [if_pos (by omega)] | rw [if_neg (by omega)])), (fun h1 h2 h3 h4 => IQ h1 h2 h3 hB h4 hwo hlo na1 na2 na3), ag, ae, aO, dE, ah, hF⟩
 refine aC ?_
 refine bM (fun g w' => (g 15 = .bool (decide (o.k = 29 ∨ o.k = 41))) ∧ (Z.h w' bp #[Z.i r, Z.i c, .slice A n cp, Z.i b.cur] 91) ∧ (Own B0 w' 37 5 (.slice A n cp) (rows Gs.cv b.cs)) ∧ (Z.h w' bb #[Z.p bp, Z.i b.at', Z.u b.lk.b, .bool b.lk.ge, .bool b.lk.st, Z.u b.lk.l, Z.u b.lk.c, .bool b.ld] 229) ∧ (Gs.jU w' [o]) ∧ (Z.h w' b1 ((Gs.oe o).toArray) 209) ∧ (aA (fun k => (aH (.slice A n cp) k ∨ k = bp) ∨ k = bb) w w')) (fun J2 hJ2 => ?_) (fun gJ2 RF hI => ?_)
 refine az (cZ _ _ _ _ _) (fun h5 => ?_) (fun h5 => ?_)
 refine aJ ?_
 refine hJ2 _ _ ?_
 replace ae := ae.ai U1
 replace dE := dE.ai U1
 replace ag := U1.af ag
 replace aO := U1.af aO
 replace hF := hF.go0 U1
 exact ⟨(by exact congrArg Value.bool (decide_eq_true (by omega)).symm), ag, ae, aO, dE, ah, hF⟩
 refine aC ?_
 refine az (cZ _ _ _ _ _) (fun h6 => ?_) (fun h6 => ?_)
 refine hJ2 _ _ ?_
 replace ae := ae.ai U1
 replace dE := dE.ai U1
 replace ag := U1.af ag
 replace aO := U1.af aO
 replace hF := hF.go0 U1
 exact ⟨(by exact congrArg Value.bool (decide_eq_true (by omega)).symm), ag, ae, aO, dE, ah, hF⟩
 refine hJ2 _ _ ?_
 replace ae := ae.ai U1
 replace dE := dE.ai U1
 replace ag := U1.af ag
 replace aO := U1.af aO
 replace hF := hF.go0 U1
 exact ⟨(by exact congrArg Value.bool (decide_eq_false (by omega)).symm), ag, ae, aO, dE, ah, hF⟩
 replace ae := ae.ai U1
 replace dE := dE.ai U1
 replace ag := U1.af ag
 replace aO := U1.af aO
 replace hF := hF.go0 U1
 obtain ⟨g15, ag, ae, aO, dE, ah, hF⟩ := hI
 rw [g15]
 refine jQ (fun h7 => ?_) (fun h7 => ?_)
 simp only [Z.d, Z.c] at h7
 refine hJ1 _ _ ?_
 exact ⟨185, Gs.um, (by rfl), by kernel_rfl, (by show Gs.nX o.k = some _; unfold Gs.nX; repeat (first | rw [if_pos (by omega)] | rw [if_neg (by omega)])), (fun h1 h2 h3 h4 => ZK h1 h2 h3 hB h4 hwo hlo na1 na2 na3), ag, ae, aO, dE, ah, hF⟩
 simp only [Z.d, Z.c] at h7
 refine az (cZ _ _ _ _ _) (fun h8 => ?_) (fun h8 => ?_)
 refine aJ ?_
 refine hJ1 _ _ ?_
 exact ⟨186, Gs.uo, (by rfl), by kernel_rfl, (by show Gs.nX o.k = some _; unfold Gs.nX; repeat (first | rw [if_pos (by omega)] | rw [if_neg (by omega)])), (fun h1 h2 h3 h4 => ZL h1 h2 h3 hB h4 hwo hlo na1 na2 na3), ag, ae, aO, dE, ah, hF⟩
 refine aC ?_
 refine az (cZ _ _ _ _ _) (fun h9 => ?_) (fun h9 => ?_)
 refine aJ ?_
 refine hJ1 _ _ ?_
 exact ⟨187, Gs.mX, (by rfl), by kernel_rfl, (by show Gs.nX o.k = some _; unfold Gs.nX; repeat (first | rw [if_pos (by omega)] | rw [if_neg (by omega)])), (fun h1 h2 h3 h4 => VA h1 h2 h3 hB h4 hwo hlo na1 na2 na3), ag, ae, aO, dE, ah, hF⟩
 refine aC ?_
 refine az (cZ _ _ _ _ _) (fun h10 => ?_) (fun h10 => ?_)
 refine aJ ?_
 refine hJ1 _ _ ?_
 exact ⟨188, Gs.qV, (by rfl), by kernel_rfl, (by show Gs.nX o.k = some _; unfold Gs.nX; repeat (first | rw [if_pos (by omega)] | rw [if_neg (by omega)])), (fun h1 h2 h3 h4 => VB h1 h2 h3 hB h4 hwo hlo na1 na2 na3), ag, ae, aO, dE, ah, hF⟩
 refine aC ?_
 refine az (cZ _ _ _ _ _) (fun h11 => ?_) (fun h11 => ?_)
 refine aJ ?_
 refine hJ1 _ _ ?_
 exact ⟨189, Gs.wz, (by rfl), by kernel_rfl, (by show Gs.nX o.k = some _; unfold Gs.nX; repeat (first | rw [if_pos (by omega)] | rw [if_neg (by omega)])), (fun h1 h2 h3 h4 => adD h1 h2 h3 hB h4 hwo hlo na1 na2 na3), ag, ae, aO, dE, ah, hF⟩
 refine aC ?_
 refine az (cZ _ _ _ _ _) (fun h12 => ?_) (fun h12 => ?_)
 refine aJ ?_
 refine hJ1 _ _ ?_
 exact ⟨190, Gs.vI, (by rfl), by kernel_rfl, (by show Gs.nX o.k = some _; unfold Gs.nX; repeat (first | rw [if_pos (by omega)] | rw [if_neg (by omega)])), (fun h1 h2 h3 h4 => VC h1 h2 h3 hB h4 hwo hlo na1 na2 na3), ag, ae, aO, dE, ah, hF⟩
 refine aC ?_
 refine az (cZ _ _ _ _ _) (fun h13 => ?_) (fun h13 => ?_)
 refine aJ ?_
 refine hJ1 _ _ ?_
 exact ⟨191, Gs.ru, (by rfl), by kernel_rfl, (by show Gs.nX o.k = some _; unfold Gs.nX; repeat (first | rw [if_pos (by omega)] | rw [if_neg (by omega)])), (fun h1 h2 h3 h4 => abE h1 h2 h3 hB h4 hwo hlo na1 na2 na3), ag, ae, aO, dE, ah, hF⟩
 refine aC ?_
 rw [Gs.ajg (o := o.m) (b := b) (by show Gs.nX o.k = none; unfold Gs.nX; repeat rw [if_neg (by omega)])]; exact ⟨_, rfl, rfl, ag, ae, aO, hF⟩
 replace ae := ae.ai U1
 replace dE := dE.ai U1
 replace ag := U1.af ag
 replace aO := U1.af aO
 replace hF := hF.go0 U1
 obtain ⟨m, f, g5, hok5, hfm, hcl, ag, ae, aO, dE, ah, hF⟩ := hI
 rw [g5]
 refine Z.b 6 ((Gs.oe o).toArray) ah ?_
 refine Py hok5 (by rfl) (aN (hcl ag ae aO dE) (fun v15 uG D15 => ?_))
 have aK := ae
 have aiN := hF.size
 obtain ⟨rfl, ag, ae, aO, bW⟩ := D15
 replace ah := bW.get ah (fun hs => by rcases hs with (hs | hs) | hs <;> first | (first | exact Own.aS aK ah (by decide) _ hs rfl | (have := Own.ge aK hs; omega)) | (exact absurd hs (Ne.symm kX)) | (exact absurd hs (Ne.symm Cf)))
 replace hF := hF.go bW (fun i hi hs => by exact hs)
 clear aK
 refine Z.f 0 ?_
 refine Z.l ah ?_
 refine az (cZ _ _ _ _ _) (fun h16 => ?_) (fun h16 => ?_)
 refine bu (bu (bu (bu (rG (rG (rG (rG (bu (aT ?_)))))))))
 refine dw ?_
 refine Z.f 7 ?_
 refine Z.s aO (fun uS aO _ df => ?_)
 replace ae := ae.aF df (Own.aS ae (by assumption) (by decide))
 replace ag := df.aj ag (by exact dW (by assumption) (by assumption) (by decide))
 replace hF := hF.go df (fun i _ h => .inr h)
 rw [Gs.TW (b := b) hfm]; refine ⟨_, rfl, rfl, ag, ae, ?_, hF⟩; have hld := (show Gs.Gg o.m = _ from Gs.OO (o := o.m) (.inl ⟨rfl, .inl (by assumption)⟩)); dsimp only; rw [hld]; exact aO
 refine bD ?_
 refine Z.f 0 ?_
 refine bD ?_
 refine Z.l ah ?_
 refine bD ?_
 refine az (cZ _ _ _ _ _) (fun h19 => ?_) (fun h19 => ?_)
 refine bD (aX ?_)
 refine Z.f 5 ?_
 refine aX ?_
 refine Z.l ah ?_
 refine aX ?_
 refine ak (gZ (by kernel_rfl) _ _ _) ?_
 refine aX ?_
 refine ak (gtr _ _ _ _) ?_
 refine bD (aT (aU ?_))
 refine dw ?_
 refine Z.f 7 ?_
 refine Z.s aO (fun xu aO _ dR => ?_)
 replace ae := ae.aF dR (Own.aS ae (by assumption) (by decide))
 replace ag := dR.aj ag (by exact dW (by assumption) (by assumption) (by decide))
 replace hF := hF.go dR (fun i _ h => .inr h)
 rw [Gs.TW (b := b) hfm]; refine ⟨_, rfl, rfl, ag, ae, ?_, hF⟩; have hld := (show Gs.Gg o.m = _ from Gs.OO (o := o.m) (.inr (.inl ⟨by assumption, by assumption, rfl⟩))); dsimp only; rw [hld]; exact aO
 refine bD (aQ (aQ (aQ (aQ (bD (aU (aU ?_)))))))
 refine dw ?_
 refine Z.f 7 ?_
 refine Z.s aO (fun Ht aO _ gQ => ?_)
 replace ae := ae.aF gQ (Own.aS ae (by assumption) (by decide))
 replace ag := gQ.aj ag (by exact dW (by assumption) (by assumption) (by decide))
 replace hF := hF.go gQ (fun i _ h => .inr h)
 rw [Gs.TW (b := b) hfm]; refine ⟨_, rfl, rfl, ag, ae, ?_, hF⟩; have hld := (show Gs.Gg o.m = _ from Gs.OO (o := o.m) (.inr (.inr ⟨by assumption, by assumption, rfl⟩))); dsimp only; rw [hld]; exact aO
end Go.Proofs.YtjdoakbadehicaaGreatDoor
end
section
namespace Gs
open Go Go.Sh
structure vJ where
 rep : Int
 rs : Bool
 al : Bool
 er : Int
def re (x : vJ) : List Value := [.int .u8 x.rep, .bool x.rs, .bool x.al, .int .i64 x.er]
def pW : vJ := ⟨0, false, false, 0⟩
def wL (e : Int) : vJ := ⟨0, false, false, e⟩
structure iL where
 r0 : Int
 c0 : Int
 r1 : Int
 c1 : Int
 wh : Int
 r : Int
 c : Int
 cs : List Cell
 cur : Int
def Sw (n : Nat) (s : iL) : Prop := (aZ s.r0 s.c0 ≠ 0 ∧ aZ s.r1 s.c1 ≠ 0) ∧ Pw s.r s.c n s.cs s.cur
def Gi (r c : Int) : List Cell := List.replicate (aZ r c).toNat zc
def bP (s : iL) (wh : Int) : iL := if wh = 0 then { s with wh := 0, r := s.r0, c := s.c0, cs := Gi s.r0 s.c0, cur := 0 } else { s with wh := 1, r := s.r1, c := s.c1, cs := Gi s.r1 s.c1, cur := 0 }
def DC (cs : List Cell) : List Cell := nV (o8 cs (ja cs)) (bU (o8 cs (ja cs)))
def Og (c : rY) (e : Int) : vJ := if e = 0 then ⟨0, decide (c.w / 2 % 2 = 1), decide (c.w / 4 % 2 = 1), 0⟩ else wL e
def IR (s : iL) (i : Int) : Br := ⟨s.cs, s.cur, i, zc, false⟩
def qy (s : iL) (c : rY) (i : Int) : iL × vJ :=
 ({ s with cs := (lm c.os (IR s i)).1.cs, cur := (lm c.os (IR s i)).1.cur }, Og c (if (lm c.os (IR s i)).2 = 0 then c.e else (lm c.os (IR s i)).2))
def iO (s : iL) (c : rY) (wh : Int) : iL × vJ := qy (bP s wh) c 0
def anB (s : iL) : iL := { s with cs := qP s.cs (bU s.cs) }
def BD (s : iL) (w : Int) : iL := { s with cs := if w % 2 = 1 then qP s.cs (bU s.cs) else s.cs }
def aao (s : iL) : iL := { s with cs := DC s.cs, cur := rZ (DC s.cs) }
def oM (s : iL) (c : rY) : iL × vJ :=
 if c.k = 241 then qy (BD s c.w) c s.cur else if c.k = 245 then iO s c 0 else if c.k = 126 then iO s c 1 else
 if c.k = 111 then (aao s, ⟨0, true, false, 0⟩) else if c.k = 242 ∨ c.k = 246 ∨ c.k = 110 then (s, ⟨c.k, false, false, 0⟩) else (s, wL 30)
def fK (s : iL) (f : rW) : iL × vJ :=
 if f.id = 1 then (s, ⟨f.op, false, false, 0⟩) else if f.id = 3 then (bP s (if f.op = 0 then 0 else 1), pW) else ((oM s f.c).1, { (oM s f.c).2 with rep := 0 })
def mrg (o r : vJ) : vJ := ⟨if o.rep = 0 then r.rep else o.rep, o.rs || r.rs, o.al || r.al, o.er⟩
def kU (e : Int) : List rW → iL → vJ → iL × vJ
 | [], s, o => (s, if e = 0 then o else wL e)
 | f :: fs, s, o => if (fK s f).2.er = 0 then kU e fs (fK s f).1 (mrg o (fK s f).2) else ((fK s f).1, wL (fK s f).2.er)
def zW (s : iL) (c : qO) : iL × vJ := if c.c.k = 243 then kU c.c.e c.fs s pW else oM s c.c
def EQ (b : List Int) : qO × Int := gJ b.length b
def yP (s : iL) (b : List Int) : iL × vJ := if (EQ b).2 = 0 then zW s (EQ b).1 else (s, wL (EQ b).2)
section
variable {e : Int} {fs : List rW} {s : iL} {o : vJ} {k : Nat} {f : rW} {x : iL × vJ}
theorem VG (h : x = kU e (fs.drop k) s o) (hk : fs.length ≤ k) : x = (s, if e = 0 then o else wL e) := by rw [h, List.drop_eq_nil_of_le hk]; rfl
theorem VF (h : x = kU e (fs.drop k) s o) (hf : fs[k]? = some f) (he : ¬ (fK s f).2.er = 0) : x = ((fK s f).1, wL (fK s f).2.er) := by
 obtain ⟨hl, rfl⟩ := List.getElem?_eq_some_iff.1 hf
 rw [h, List.drop_eq_getElem_cons hl, kU, if_neg he]
theorem yA (h : x = kU e (fs.drop k) s o) (hf : fs[k]? = some f) (he : (fK s f).2.er = 0) : x = kU e (fs.drop (k + 1)) (fK s f).1 (mrg o (fK s f).2) := by
 obtain ⟨hl, rfl⟩ := List.getElem?_eq_some_iff.1 hf
 rw [h, List.drop_eq_getElem_cons hl, kU, if_pos he]
end
theorem Cj (r c : Int) : (Gi r c).length = (aZ r c).toNat := List.length_replicate ..
theorem alA (n : Nat) : jh (List.replicate n zc) := fun x hx => by rw [List.eq_of_mem_replicate hx]; exact Ad
theorem Pw.new {r c : Int} (h : aZ r c ≠ 0) : Pw r c (aZ r c).toNat (Gi r c) 0 := by
 have h1 := zk r c
 exact ⟨(Cj r c).symm, alA _, by omega, by omega, by omega, by omega⟩
theorem Pw.len {r c cur : Int} {n : Nat} {cs : List Cell} (h : Pw r c n cs cur) : Pw r c cs.length cs cur := h.1 ▸ h
theorem Sw.len {n : Nat} {s : iL} (h : Sw n s) : Sw s.cs.length s := ⟨h.1, h.2.len⟩
theorem Sw.renew {n : Nat} {s : iL} (h : Sw n s) (wh : Int) : Sw (bP s wh).cs.length (bP s wh) := by
 unfold bP
 split
 ·exact ⟨h.1, (Pw.new h.1.1).len⟩
 ·exact ⟨h.1, (Pw.new h.1.2).len⟩
theorem Bw.aap {r c : Int} {n : Nat} : ∀ {os : List iK} {b : Br}, Bw r c n b → (∀ o ∈ os, (0 ≤ o.b ∧ o.b ≤ 255) ∧ Bs o.ds) → Bw r c n (lm os b).1
 | [], b, h, _ => h
 | o :: os, b, h, hw => by
  have h1 := hw o (List.mem_cons_self ..)
  have h2 := h.do h1.1 h1.2
  unfold lm
  split
  ·exact Bw.aap h2 fun x hx => hw x (List.mem_cons_of_mem _ hx)
  ·exact h2
def rX (os : List iK) : Prop := ∀ o ∈ os, (0 ≤ o.b ∧ o.b ≤ 255) ∧ Bs o.ds
theorem rX.of {l : List iM} (h : BF l) : rX (vZ l) := fun o ho => by
 obtain ⟨x, hx, rfl⟩ := List.mem_map.1 ho
 exact ⟨(h x hx).2.1, (h x hx).2.2.1⟩
theorem Bw.of {s : iL} {n : Nat} (h : Sw n s) {i : Int} (hi : 0 ≤ i ∧ i < n) : Bw s.r s.c n (IR s i) := ⟨h.2, hi, Ad⟩
theorem Sw.write {n : Nat} {s : iL} (h : Sw n s) {c : rY} (hw : rX c.os) {i : Int} (hi : 0 ≤ i ∧ i < n) : Sw n (qy s c i).1 := ⟨h.1, (Bw.aap (Bw.of h hi) hw).1⟩
theorem Sw.erase {n : Nat} {s : iL} (h : Sw n s) {c : rY} (hw : rX c.os) (wh : Int) : Sw (bP s wh).cs.length (iO s c wh).1 := by
 have h1 := h.renew wh
 have h2 := h1.2.2.2.1
 have h3 : (bP s wh).cur = 0 := by unfold bP; split <;> rfl
 exact h1.write hw ⟨by omega, by omega⟩
theorem Sw.unm {n : Nat} {s : iL} (h : Sw n s) : Sw n (anB s) := ⟨h.1, h.2.unm _⟩
theorem Sw.cln {n : Nat} {s : iL} (h : Sw n s) (w : Int) : Sw n (BD s w) := by unfold BD; split; exact h.unm; exact h
theorem PV (cs : List Cell) : (DC cs).length = cs.length := by
 unfold DC
 rw [← uB]
 unfold o8
 have : ∀ (l : List Int) (c : List Cell), (l.foldl (fun cs i => if jX cs i = true then jb cs i zc else cs) c).length = c.length := by
  intro l
  induction l with
  | nil => exact fun _ => rfl
  | cons i l ih =>
   intro c
   rw [List.foldl_cons, ih]
   split
   ·exact mi ..
   ·rfl
 exact this _ _
theorem ahN {cs : List Cell} (h : jh cs) : jh (DC cs) := AC (EK h _).1 _
theorem Sw.opn {n : Nat} {s : iL} (h : Sw n s) : Sw n (aao s) := by
 have hn := h.2.1
 have hp := h.2.2.2.2.1
 have hl := PV s.cs
 have hh := Jk (cs := DC s.cs) (by omega)
 exact ⟨h.1, ⟨hn.trans hl.symm, ahN h.2.2.1, by show 0 ≤ rZ _ ∧ rZ _ < _; omega, h.2.2.2.2⟩⟩
theorem Sw.Xh {n : Nat} {s : iL} (h : Sw n s) {c : rY} (hw : rX c.os) : Sw (oM s c).1.cs.length (oM s c).1 := by
 unfold oM
 split
 ·exact ((h.cln _).write hw (h.2.2.2.1)).len
 split
 ·exact (h.erase hw 0).len
 split
 ·exact (h.erase hw 1).len
 split
 ·exact h.opn.len
 split <;> exact h.len
theorem Sw.field {n : Nat} {s : iL} (h : Sw n s) {f : rW} (hw : rX f.c.os) : Sw (fK s f).1.cs.length (fK s f).1 := by
 unfold fK
 split
 ·exact h.len
 split
 ·exact h.renew _
 ·exact h.Xh hw
theorem Sw.fields {e : Int} : ∀ {fs : List rW} {n : Nat} {s : iL} {o : vJ}, Sw n s → (∀ f ∈ fs, rX f.c.os) → Sw (kU e fs s o).1.cs.length (kU e fs s o).1
 | [], n, s, o, h, _ => h.len
 | f :: fs, n, s, o, h, hw => by
  have h1 := h.field (hw f (List.mem_cons_self ..))
  unfold kU
  split
  ·exact Sw.fields h1 fun x hx => hw x (List.mem_cons_of_mem _ hx)
  ·exact h1
theorem aaO {c : rY} {e : Int} (h : e = 0) : Og c e = ⟨0, decide (c.w / 2 % 2 = 1), decide (c.w / 4 % 2 = 1), 0⟩ := by unfold Og; rw [if_pos h]
theorem ajj {c : rY} {e : Int} (h : ¬ e = 0) : Og c e = wL e := by unfold Og; rw [if_neg h]
theorem ajh {x : pq} {S : Nat → Prop} (h : [(⟨0, 0, x⟩ : Fd)] = [] ∨ ∀ k, kP [⟨0, 0, x⟩] k → S k) : rows oe x.os = [] ∨ ∀ k, eY x.oA k → S k := by
 by_cases hx : x.os = []
 ·left; rw [hx]; rfl
 ·right
  intro k hk
  rcases h with h | h
  ·cases h
  ·exact h k ⟨_, List.mem_cons_self .., hx, .inl hk⟩
theorem aji {x : pq} {S : Nat → Prop} (h : [(⟨0, 0, x⟩ : Fd)] = [] ∨ ∀ k, kP [⟨0, 0, x⟩] k → S k) : x.os = [] ∨ ∀ k, jB x.os k → S k := by
 by_cases hx : x.os = []
 ·exact .inl hx
 ·right
  intro k hk
  rcases h with h | h
  ·cases h
  ·exact h k ⟨_, List.mem_cons_self .., hx, .inr hk⟩
theorem ZP {x y : Fd} {S : Nat → Prop} (e : x.c = y.c) (h : [x] = [] ∨ ∀ k, kP [x] k → S k) : [y] = [] ∨ ∀ k, kP [y] k → S k := .inr fun k hk => by
 obtain ⟨z, hz, hb⟩ := hk
 cases List.mem_singleton.1 hz
 rcases h with h | h
 ·cases h
 ·exact h k ⟨x, List.mem_cons_self .., e ▸ hb⟩
theorem Uf {l : List Fd} {i : Nat} {x : Fd} {S : Nat → Prop} (h : l = [] ∨ ∀ k, kP l k → S k) (hx : l[i]? = some x) : [x] = [] ∨ ∀ k, kP [x] k → S k := .inr fun k hk => by
 rcases h with rfl | h
 ·simp at hx
 ·exact h k (agq hx hk)
theorem EO {l : List Fd} {k : Nat} {x : Fd} (h : l[k]? = some x) : (qL l)[k]? = some x.m := by unfold qL; rw [List.getElem?_map, h]; rfl
section
variable {s : iL} {c : rY} {f : rW}
theorem aeG (h : c.k = 241) : oM s c = qy (BD s c.w) c s.cur := by unfold oM; rw [if_pos h]
theorem alc (h : c.k = 245) : oM s c = iO s c 0 := by unfold oM; rw [if_neg (by omega), if_pos h]
theorem ald (h : c.k = 126) : oM s c = iO s c 1 := by unfold oM; rw [if_neg (by omega), if_neg (by omega), if_pos h]
theorem ale (h : c.k = 111) : oM s c = (aao s, ⟨0, true, false, 0⟩) := by unfold oM; rw [if_neg (by omega), if_neg (by omega), if_neg (by omega), if_pos h]
theorem alf (h : c.k = 242 ∨ c.k = 246 ∨ c.k = 110) : oM s c = (s, ⟨c.k, false, false, 0⟩) := by unfold oM; rw [if_neg (by omega), if_neg (by omega), if_neg (by omega), if_neg (by omega), if_pos h]
theorem alg (h : ¬ (c.k = 241 ∨ c.k = 245 ∨ c.k = 126 ∨ c.k = 111 ∨ c.k = 242 ∨ c.k = 246 ∨ c.k = 110)) : oM s c = (s, wL 30) := by unfold oM; rw [if_neg (by omega), if_neg (by omega), if_neg (by omega), if_neg (by omega), if_neg (by omega)]
theorem ag8 (h : f.id = 1) : fK s f = (s, ⟨f.op, false, false, 0⟩) := by unfold fK; rw [if_pos h]
theorem ag9 (h : f.id = 3) : fK s f = (bP s (if f.op = 0 then 0 else 1), pW) := by unfold fK; rw [if_neg (by omega), if_pos h]
theorem aha (h1 : ¬ f.id = 1) (h : ¬ f.id = 3) : fK s f = ((oM s f.c).1, { (oM s f.c).2 with rep := 0 }) := by unfold fK; rw [if_neg h1, if_neg h]
end
theorem ajl {xs : List Value} {A : Option Addr} {b b' B : Nat} (h : xs = [] ∨ ∀ k, eY A k → k ≠ b) (lt : G9 A xs B) (hb : b' = b ∨ B ≤ b') : xs = [] ∨ ∀ k, eY A k → k ≠ b' := by
 rcases hb with rfl | hb
 ·exact h
 ·exact lt.imp_right fun h k hk e => by have := h k hk; omega
theorem alh {l : List Fd} {w : World} {b b' : Nat} (h : l = [] ∨ ∀ k, kP l k → k ≠ b) (hc : gU w l) (hb : b' = b ∨ w.heap.size ≤ b') : l = [] ∨ ∀ k, kP l k → k ≠ b' := by
 rcases hb with rfl | hb
 ·exact h
 ·exact hc.lt.imp_right fun h k hk e => by have := h k hk; omega
def WS (l : List Fd) : Prop := ∀ x ∈ l, (EL x.c.os ∧ x.c.os.length ≤ 100000) ∧ (x.id = 1 ∨ x.id = 3 ∨ sF x.c.k)
theorem WS.get {l : List Fd} (h : WS l) {k : Nat} {x : Fd} (hx : l[k]? = some x) : (EL x.c.os ∧ x.c.os.length ≤ 100000) ∧ (x.id = 1 ∨ x.id = 3 ∨ sF x.c.k) := h x (List.mem_of_getElem? hx)
section
variable {o r : vJ}
theorem ajm (h : o.rs = true) (k : o.al = true) : mrg o r = ⟨if o.rep = 0 then r.rep else o.rep, true, true, o.er⟩ := by unfold mrg; rw [h, k]; rfl
theorem ajn (h : o.rs = true) (k : o.al = false) : mrg o r = ⟨if o.rep = 0 then r.rep else o.rep, true, r.al, o.er⟩ := by unfold mrg; rw [h, k]; rfl
theorem ajo (h : o.rs = false) (k : o.al = true) : mrg o r = ⟨if o.rep = 0 then r.rep else o.rep, r.rs, true, o.er⟩ := by unfold mrg; rw [h, k]; rfl
theorem ajp (h : o.rs = false) (k : o.al = false) : mrg o r = ⟨if o.rep = 0 then r.rep else o.rep, r.rs, r.al, o.er⟩ := by unfold mrg; rw [h, k]; rfl
end
end Gs
namespace Gs
open Go Go.Sh
def Aw (m : Nat) (os : List iK) : Prop := os.length ≤ m ∧ ∀ o ∈ os, o.ds.length ≤ m ∧ o.ps.length ≤ m
theorem Aw.mono {m k : Nat} {os : List iK} (h : Aw m os) (hk : m ≤ k) : Aw k os := ⟨by have := h.1; omega, fun o ho => by have := h.2 o ho; omega⟩
theorem Aw.nil (m : Nat) : Aw m [] := ⟨Nat.zero_le _, fun o h => by cases h⟩
def Xi (m : Nat) (f : rW) : Prop := Aw m f.c.os ∧ (f.id = 1 ∨ f.id = 3 ∨ sF f.c.k)
def CmS (m : Nat) (c : qO) : Prop := Aw m c.c.os ∧ ∀ f ∈ c.fs, Xi m f
theorem ahO {P : List Int → qO × Int} (hP : ∀ b, CmS b.length (P b).1) {b : List Int} {f : rW} (h : DT P b = some f) : Xi b.length f := by
 unfold DT at h
 split at h
 ·rename_i x r
  split at h
  ·unfold C9 at h
   split at h
   ·split at h
    ·cases h; exact ⟨Aw.nil _, .inl rfl⟩
    ·cases h
   ·cases h
  split at h
  ·unfold zF at h
   split at h
   ·split at h
    ·cases h; exact ⟨Aw.nil _, .inr (.inl rfl)⟩
    ·cases h
   ·cases h
  split at h
  ·unfold writeM' at h
   split at h
   ·rename_i y z t
    split at h
    ·rename_i hc
     cases h
     exact ⟨(hP (z :: t)).1.mono (by simp only [List.length_cons]; omega), .inr (.inr hc.2.2)⟩
    ·cases h
   ·cases h
  ·cases h
 ·cases h
theorem Xi.mono {m k : Nat} {f : rW} (h : Xi m f) (hk : m ≤ k) : Xi k f := ⟨h.1.mono hk, h.2⟩
theorem NG {P : List Int → qO × Int} (hP : ∀ b, CmS b.length (P b).1) : ∀ (m : Nat) (b : List Int), b.length ≤ m → ∀ f ∈ (jy P b).1, Xi b.length f
 | 0, b, hb, f, hf => by
  obtain rfl := List.length_eq_zero_iff.1 (Nat.le_zero.1 hb)
  rw [rJ] at hf; cases hf
 | m + 1, b, hb, f, hf => by
  by_cases h0 : b = []
  ·subst h0; rw [rJ] at hf; cases hf
  ·rw [jy, if_neg h0] at hf
   split at hf
   ·cases hf
   ·rename_i x r hc
    have hl := uT hc
    split at hf
    ·cases hf
    ·rename_i g hg
     rcases List.mem_cons.1 hf with rfl | hf
     ·exact (ahO hP hg).mono (by omega)
     ·exact (NG hP m r (by omega) f hf).mono (by omega)
theorem Qn : ∀ (N : Nat) (b : List Int), CmS b.length (gJ N b).1
 | 0, b => ⟨Aw.nil _, fun f h => by cases h⟩
 | N + 1, b => by
  unfold gJ
  split
  ·exact ⟨Aw.nil _, fun f h => by cases h⟩
  ·rename_i x r
   split
   ·exact ⟨Aw.nil _, fun f h => by cases h⟩
   ·split
    ·split
     ·exact ⟨Aw.nil _, fun f h => by cases h⟩
     ·rename_i w r'
      have h1 := P9 r'.length r' (Nat.le_refl _)
      exact ⟨⟨by show (iw r').1.length ≤ _; simp only [List.length_cons]; omega, fun o ho => by have := h1.2 o ho; simp only [List.length_cons]; omega⟩, fun f h => by cases h⟩
    ·split
     ·refine ⟨Aw.nil _, fun f hf => ?_⟩
      exact (NG (Qn N) r.length r (Nat.le_refl _) f hf).mono (by simp only [List.length_cons]; omega)
     ·exact ⟨Aw.nil _, fun f h => by cases h⟩
theorem acn {os : List iM} {m : Nat} (h : Aw m (vZ os)) (hm : m ≤ 100000) : EL os ∧ os.length ≤ 100000 := by
 have h1 := h.1
 rw [WP] at h1
 refine ⟨fun x hx => ?_, by omega⟩
 have h2 : x.ds.length ≤ m ∧ x.ps.length ≤ m := h.2 x.m (List.mem_map.2 ⟨x, hx, rfl⟩)
 exact ⟨by omega, by omega⟩
theorem adG {N : Nat} {b : List Int} {x : pq} {fs : List Fd} {er : Int} (h : gJ N b = (⟨x.m, qL fs⟩, er)) (hb : b.length ≤ 100000) : (EL x.os ∧ x.os.length ≤ 100000) ∧ WS fs := by
 have hk := Qn N b
 rw [h] at hk
 refine ⟨acn hk.1 hb, fun f hf => ?_⟩
 have h2 := hk.2 f.m (List.mem_map.2 ⟨f, hf, rfl⟩)
 exact ⟨acn h2.1 hb, h2.2⟩
theorem J7 {P : List Int → qO × Int} : ∀ {n : Nat} {b : List Int}, b.length ≤ n → (jy P b).1.length ≤ b.length
 | 0, b, hb => by
  obtain rfl := List.length_eq_zero_iff.1 (Nat.le_zero.1 hb)
  rw [rJ]; exact Nat.le_refl _
 | n + 1, b, hb => by
  by_cases h0 : b = []
  ·subst h0; rw [rJ]; exact Nat.le_refl _
  ·rw [jy, if_neg h0]
   split
   ·exact Nat.zero_le _
   ·rename_i x r hc
    have hl := uT hc
    split
    ·exact Nat.zero_le _
    ·have := J7 (P := P) (n := n) (b := r) (by omega)
     simp only [List.length_cons]; omega
theorem aee {N : Nat} {b : List Int} : (gJ N b).1.fs.length ≤ b.length := by
 cases N with
 | zero => exact Nat.zero_le _
 | succ N =>
  unfold gJ
  split
  ·exact Nat.zero_le _
  ·rename_i x r
   split
   ·exact Nat.zero_le _
   ·split
    ·split <;> exact Nat.zero_le _
    ·split
     ·have := J7 (P := gJ N) (n := r.length) (b := r) (Nat.le_refl _)
      show (jy (gJ N) r).1.length ≤ _
      simp only [List.length_cons]; omega
     ·exact Nat.zero_le _
theorem adH {N : Nat} {b : List Int} {x : pq} {fs : List Fd} {er : Int} (h : gJ N b = (⟨x.m, qL fs⟩, er)) (hb : b.length ≤ 100000) : fs.length ≤ 100000 := by
 have := aee (N := N) (b := b)
 rw [h] at this
 have h2 : (qL fs).length ≤ b.length := this
 rw [V5] at h2; omega
theorem ali {s : iL} {c : qO} (h : c.c.k = 243) : zW s c = kU c.c.e c.fs s pW := by unfold zW; rw [if_pos h]
theorem alj {s : iL} {c : qO} (h : ¬ c.c.k = 243) : zW s c = oM s c.c := by unfold zW; rw [if_neg h]
theorem ajq {s : iL} {b : List Int} {x : qO} {e : Int} (h : gJ b.length b = (x, e)) (he : ¬ e = 0) : yP s b = (s, wL e) := by unfold yP EQ; rw [h]; dsimp only; rw [if_neg he]
theorem RS {s : iL} {b : List Int} {x : qO} {e : Int} (h : gJ b.length b = (x, e)) (he : e = 0) : yP s b = zW s x := by unfold yP EQ; rw [h]; dsimp only; rw [if_pos he]
theorem Sw.zW {n : Nat} {s : iL} (h : Sw n s) {x : pq} {fs : List Fd} (hx : Ap x) (hf : Bz fs) : Sw (Gs.zW s ⟨x.m, qL fs⟩).1.cs.length (Gs.zW s ⟨x.m, qL fs⟩).1 := by
 unfold Gs.zW
 split
 ·refine h.fields fun f hm => ?_
  obtain ⟨y, hy, rfl⟩ := List.mem_map.1 hm
  exact rX.of (hf y hy).2.2.2.2
 ·exact h.Xh (rX.of hx.2.2)
end Gs
end
section
namespace Go.Proofs.YtjdoakbadehicaaGreatDoor
open Go Go.Sh
set_option maxRecDepth 100000
theorem OA {r c cur : Int} {A : Option Addr} {n cp bp B0 : Nat} {cs : List Gs.Cell} {w : World} (ag : Z.h w bp #[Z.i r, Z.i c, .slice A n cp, Z.i cur] 91) (ae : Own B0 w 37 5 (.slice A n cp) (rows Gs.cv cs)) (hn : n = cs.length) (hN : Gs.aZ r c = n) (hb : n ≤ 4096) (hcw : Gs.jh cs)  :
    oX 107 #[Z.p bp] w fun e w' => ∃ v, e = .returned v ∧ v = Z.i (Gs.BV cs (Gs.bU cs).length : Nat) ∧ Own B0 w' 37 5 (.slice A n cp) (rows Gs.cv (Gs.qP cs (Gs.bU cs))) ∧ aA (aH (.slice A n cp)) w w' := by
 refine YP.calls ?_
 unfold YP
 subst hn
 have hsl := Gs.ul cs
 have hF : aA (aH (.slice A cs.length cp)) w w := Fr.refl _ _ _
 refine Z.x _ (fun b1 w1 e1 ah _ U1 => ?_)
 have iq := ae.apart e1
 refine Z.n (#[Z.i 0]) (fun b2 w2 e2 ax _ U2 => ?_)
 replace ag := U1.af ag
 have eU : bp ≠ b2 := by have := au ag; omega
 replace ae := ae.ai U1
 have dF := ae.apart e2
 have lI : b1 ≠ b2 := by have := au ah; omega
 replace hF := hF.go0 U1
 have eQ : w.heap.size ≤ b2 := by have := hF.size; omega
 refine Z.s ax (fun w3 ax _ U3 => ?_)
 refine bM (fun g w' => ∃ (D2 : Nat), (g 1000000 = mkV D2 undef) ∧ (w.heap.size ≤ D2) ∧ (w'.heap[D2]? = some (.deferred (some []))) ∧ (Z.h w' b2 #[Z.i (Gs.BV cs (Gs.bU cs).length : Nat)] 3) ∧ (Own B0 w' 37 5 (.slice A cs.length cp) (rows Gs.cv (Gs.qP cs (Gs.bU cs)))) ∧ (aA (aH (.slice A cs.length cp)) w w')) (fun J1 hJ1 => ?_) (fun gJ1 jT hI => ?_)
 replace ah := U3.aj (U2.af ah) lI
 refine Z.l ah ?_
 replace ae := (ae.ai U2).aF U3 dF
 replace ag := U3.aj (U2.af ag) eU
 refine aN (wF ag ae rfl) (fun v4 w4 D4 => ?_)
 obtain ⟨b1_6, rfl, g1_6, mM, U4⟩ := D4
 have QJ : ∀ k, aH _ k → k ≠ b1_6 := fun k hk => by have := (Own.ge ae hk).2; omega
 have Zo : b2 ≠ b1_6 := by have := au ax; omega
 refine tJ (by kernel_rfl) (fun w5 l2 D2 Rdy2 Bsy2 Dn2 y2 eD el bg bz lp1 lp2 lp3 sz5 U5 hY => ?_)
 have lp2_2 := lp2
 replace ag := U4.af ag
 have ig : bp ≠ l2 := by have := au ag; omega
 replace ae := ae.ai U4
 have rP : ∀ k, aH _ k → k ≠ D2 := fun k hk => by have := (Own.ge ae hk).2; omega
 have eH : ∀ k, aH _ k → k ≠ l2 := fun k hk => by have := (Own.ge ae hk).2; omega
 replace ah := U4.af ah
 have iD : b1 ≠ l2 := by have := au ah; omega
 replace ax := U4.af ax
 have tN : b2 ≠ D2 := by have := au ax; omega
 have gq : b2 ≠ l2 := by have := au ax; omega
 have AQ : b1_6 ≠ l2 := by have := au mM; omega
 replace hF := ((hF.go0 U2).go1 U3 eQ).go0 U4
 have nz : w.heap.size ≤ D2 := by have := hF.size; omega
 have jC : w.heap.size ≤ l2 := by have := hF.size; omega
 have fB : D2 ≠ l2 := by omega
 replace ae := ae.ai U5
 replace ag := U5.af ag
 replace ah := U5.af ah
 replace ax := U5.af ax
 replace mM := U5.af mM
 replace hF := hF.go0 U5
 refine Calls.mono (uj (b1 := b1_6) (csF := (fun k => Gs.qP cs ((Gs.bU cs).take k))) (J := (fun (k : Nat) (w' : World) => (Z.h w' bp #[Z.i r, Z.i c, .slice A cs.length cp, Z.i cur] 91) ∧ (Own B0 w' 37 5 (.slice A cs.length cp) (rows Gs.cv (Gs.qP cs ((Gs.bU cs).take k)))) ∧ (Z.h w' b2 #[Z.i (Gs.BV cs k : Nat)] 3) ∧ (Z.h w' b1_6 #[Z.p bp] 33) ∧ (Z.h w' b1 #[Z.p bp] 33) ∧ (w'.heap[D2]? = some (.deferred (some []))) ∧ (w'.heap[l2]? = some Rdy2) ∧ (aA (aH (.slice A cs.length cp)) w w'))) (X := (fun _ => False)) (fun _ w' hJ => by obtain ⟨ag, ae, ax, mM, ah, bg, bz, hF⟩ := hJ; exact ⟨mM, ag, ae⟩) (fun _ w' w'' hJ U' => by obtain ⟨ag, ae, ax, mM, ah, bg, bz, hF⟩ := hJ; exact ⟨U'.af ag, ae.ai U', U'.af ax, U'.af mM, U'.af ah, U'.af bg, U'.af bz, hF.go0 U'⟩) (fun _ _ h _ => h.elim) (fun _ => Gs.ED cs _) (fun _ => Gs.QZ hcw _) (fun _ _ => by rw [Gs.Tt, Gs.Tt]) hN hb ?_ ?_) ?_
 intro k qK xk hx hI
 obtain ⟨ag, ae, ax, mM, ah, bg, bz, hF⟩ := hI
 have hx : (Gs.bU cs)[k]? = some xk := hx
 have hk := (List.getElem?_eq_some_iff.1 hx).1
 have hxm := Gs.qc.1 (List.mem_of_getElem? hx)
 have hxn := hxm.1
 have hle := Gs.agI cs k
 refine hY [.agg (Gs.fv (Gs.kC (Gs.qP cs ((Gs.bU cs).take k)) xk)).toArray] _ _ rfl bz ?_
 simp only [List.getD_cons_zero, List.getD_cons_succ]
 refine Z.n ((Gs.fv Gs.zf).toArray) (fun b6 w6 e6 nU _ U6 => ?_)
 have vk : bp ≠ b6 := by have := au ag; omega
 have oZ := ae.apart e6
 have BX : b2 ≠ b6 := by have := au ax; omega
 have ML : b1_6 ≠ b6 := by have := au mM; omega
 have FQ : b1 ≠ b6 := by have := au ah; omega
 have Tu : D2 ≠ b6 := by have := au bg; omega
 have Tv : l2 ≠ b6 := by have := au bz; omega
 have wP : w.heap.size ≤ b6 := by have := hF.size; omega
 refine Z.t 3 ((Gs.fv (Gs.kC (Gs.qP cs ((Gs.bU cs).take k)) xk)).toArray) (by (simp [Value.cells, Value.oneCell', Gs.cv, Gs.fv]; done)) nU (fun w7 nU _ U7 => ?_)
 replace bz := U7.aj (U6.af bz) Tv
 refine wE bz (fun w8 bz _ U8 => ?_)
 refine Z.f 2 ?_
 replace nU := U8.aj nU (Ne.symm Tv)
 refine Z.l nU ?_
 refine dQ (Dk (Gs.SN (Gs.QZ hcw _) xk)) (fun w9 U9 h9 => ?_) (fun w9 U9 h9 => ?_)
 simp only [Z.d, Z.c] at h9
 refine aJ ?_
 replace ax := U9.af (U8.aj (U7.aj (U6.af ax) BX) gq)
 refine Z.l ax ?_
 refine ak (dK _ (by omega)) ?_
 refine Z.s ax (fun w10 ax _ aY => ?_)
 replace ah := aY.aj (U9.af (U8.aj (U7.aj (U6.af ah) FQ) iD)) lI
 refine Z.l ah ?_
 refine Z.f 0 ?_
 replace nU := aY.aj (U9.af nU) (Ne.symm BX)
 refine Z.l nU ?_
 replace ae := ((((ae.ai U6).aF U7 oZ).aF U8 eH).ai U9).aF aY dF
 replace ag := aY.aj (U9.af (U8.aj (U7.aj (U6.af ag) vk) ig)) eU
 refine aN (KI ag ae (Gs.ED cs _) hN hb (Gs.QZ hcw _) (i := (xk : Int)) ⟨by omega, by rw [← Gs.ED]; omega⟩) (fun v11 nR D11 => ?_)
 obtain ⟨N11, bK⟩ := D11
 have aK := ae
 replace ag := bK.get ag (fun h => Own.aS aK ag (by decide) _ h rfl)
 replace ae := N11
 replace ax := bK.get ax (fun h => dF _ h rfl)
 replace mM := aY.aj (U9.af (U8.aj (U7.aj (U6.af mM) ML) AQ)) (Ne.symm Zo)
 replace mM := bK.get mM (fun h => QJ _ h rfl)
 replace ah := bK.get ah (fun h => iq _ h rfl)
 replace bg := aY.aj (U9.af (U8.aj (U7.aj (U6.af bg) Tu) fB)) (Ne.symm tN)
 replace bg := bK.get bg (fun h => rP _ h rfl)
 replace bz := aY.aj (U9.af bz) (Ne.symm gq)
 replace bz := bK.get bz (fun h => eH _ h rfl)
 replace hF := ((((hF.go0 U6).go1 U7 wP).go1 U8 jC).go0 U9).go1 aY eQ
 replace hF := hF.go bK (fun i h hs => by exact hs)
 clear aK
 refine rM bz (fun w12 bz _ di => ?_)
 replace ae := ae.aF di eH
 replace ag := di.aj ag ig
 replace ax := di.aj ax gq
 replace mM := di.aj mM AQ
 replace ah := di.aj ah iD
 replace bg := di.aj bg fB
 replace hF := hF.go1 di jC
 exact ⟨ag, (by rw [Gs.Tn hx]; (rw [if_pos ((Gs.Jn hx).1 (by assumption))]; exact ae)), (by (rw [Gs.aiI hx ((Gs.Jn hx).1 (by assumption))]; exact ax)), mM, ah, bg, bz, hF⟩
 simp only [Z.d, Z.c] at h9
 refine aC ?_
 replace bz := U9.af bz
 refine rM bz (fun vY bz _ dI => ?_)
 replace ae := ((((ae.ai U6).aF U7 oZ).aF U8 eH).ai U9).aF dI eH
 replace ag := dI.aj (U9.af (U8.aj (U7.aj (U6.af ag) vk) ig)) ig
 replace ax := dI.aj (U9.af (U8.aj (U7.aj (U6.af ax) BX) gq)) gq
 replace mM := dI.aj (U9.af (U8.aj (U7.aj (U6.af mM) ML) AQ)) AQ
 replace ah := dI.aj (U9.af (U8.aj (U7.aj (U6.af ah) FQ) iD)) iD
 replace bg := dI.aj (U9.af (U8.aj (U7.aj (U6.af bg) Tu) fB)) fB
 replace hF := ((((hF.go0 U6).go1 U7 wP).go1 U8 jC).go0 U9).go1 dI jC
 exact ⟨ag, (by rw [Gs.Tn hx]; (rw [if_neg (fun ho => absurd ((Gs.Jn hx).2 ho) (by assumption))]; exact ae)), (by (rw [Gs.aiJ hx (fun ho => absurd ((Gs.Jn hx).2 ho) (by assumption))]; exact ax)), mM, ah, bg, bz, hF⟩
 exact ⟨ag, ae, ax, mM, ah, bg, bz, hF⟩
 rintro e wE2 ⟨hv, hI | hI⟩
 obtain ⟨ag, ae, ax, mM, ah, bg, bz, hF⟩ := hI
 refine ⟨hv, .inl ⟨bz, fun sO _ dC => ?_⟩⟩
 refine hJ1 _ _ ?_
 replace ae := ae.aF dC eH
 replace ax := dC.aj ax gq
 replace bg := dC.aj bg fB
 replace hF := hF.go1 dC jC
 exact ⟨_, (by rfl), nz, bg, ax, (by have h5 := ae; rw [show ((Gs.bU cs).take (Gs.bU (Gs.qP cs ((Gs.bU cs).take 0))).length) = Gs.bU cs from List.take_of_length_le (Nat.le_refl _)] at h5; exact h5), hF⟩
 exact hI.elim
 replace ae := (ae.ai U2).aF U3 dF
 replace hF := (hF.go0 U2).go1 U3 eQ
 obtain ⟨D2, g1000000, nz, bg, ax, ae, hF⟩ := hI
 rw [g1000000]
 refine Z.l ax ?_
 refine leave1 bg (fun w16 _ bQ => ?_)
 replace ae := ae.aF bQ (Own.kT ae (by assumption))
 replace hF := hF.go1 bQ nz
 exact ⟨_, rfl, rfl, ae, hF⟩
theorem QL {r c cur : Int} {A : Option Addr} {n cp bp B0 : Nat} {cs : List Gs.Cell} {w : World} (ag : Z.h w bp #[Z.i r, Z.i c, .slice A n cp, Z.i cur] 91) (ae : Own B0 w 37 5 (.slice A n cp) (rows Gs.cv cs)) (hW : Gs.Pw r c n cs cur) {os : List Gs.iM} {oA : Option Addr} {on oc : Nat} (bH : Rd w oA (rows Gs.oe os)) (hon : on = os.length) (hol : on ≤ 100000) (dE : Gs.jU w os) (how : Gs.BF os) (hln : Gs.EL os) (nar1 : rows Gs.oe os = [] ∨ ∀ k, eY oA k → ¬ aH (.slice A n cp) k) (nar2 : rows Gs.oe os = [] ∨ ∀ k, eY oA k → k ≠ bp) (na1 : os = [] ∨ ∀ k, Gs.jB os k → ¬ aH (.slice A n cp) k) (na2 : os = [] ∨ ∀ k, Gs.jB os k → k ≠ bp) {i : Int} (hi : 0 ≤ i ∧ i < n) :
    oX 150 #[Z.p bp, .slice oA on oc, Z.i i] w fun e w' => ∃ v, e = .returned v ∧ ∃ (at' dn : Int), v = .tuple #[Z.i at', Z.i dn, Z.i (Gs.lm (Gs.vZ os) (⟨cs, cur, i, Gs.zc, false⟩ : Gs.Br)).2] ∧ Z.h w' bp #[Z.i r, Z.i c, .slice A n cp, Z.i (Gs.lm (Gs.vZ os) (⟨cs, cur, i, Gs.zc, false⟩ : Gs.Br)).1.cur] 91 ∧ Own B0 w' 37 5 (.slice A n cp) (rows Gs.cv (Gs.lm (Gs.vZ os) (⟨cs, cur, i, Gs.zc, false⟩ : Gs.Br)).1.cs) ∧ aA (fun k => aH (.slice A n cp) k ∨ k = bp) w w' := by
 refine YT.calls ?_
 unfold YT
 obtain ⟨hn, hcw, hcu, hp, hN, hb⟩ := id hW; have hrc := hW.rc
 subst hon
 have hos := Gs.WP os
 have xy := au ag
 have l9 := Own.lt ae
 have LV := bH.lt
 have ajc := dE.lt
 have hF : aA (fun k => aH (.slice A n cp) k ∨ k = bp) w w := Fr.refl _ _ _
 refine ny (lss _ _ _ _) (by omega) ?_
 refine bD (bD (bD ?_))
 refine aB (fG ag ae hn) (fun w1 U1 => ?_)
 refine bD ?_
 refine ny (geq _ _ _ _) (by omega) ?_
 refine aU (aC ?_)
 refine ak (bG (l := [(0, 1), (1, 1), (2, 5), (7, 1)]) (z := #[.pointer none, Z.i 0, Z.u 0, .bool false, .bool false, Z.u 0, Z.u 0, .bool false]) (cs := [Z.p bp, Z.i i, Z.u 0, .bool false, .bool false, Z.u 0, Z.u 0, .bool false]) (by kernel_rfl) (by rfl)) ?_
 refine Z.x (#[Z.p bp, Z.i i, Z.u 0, .bool false, .bool false, Z.u 0, Z.u 0, .bool false]) (fun b3 w3 e3 bC _ U3 => ?_)
 replace ag := U1.af ag
 have lH : bp ≠ b3 := by have := au ag; omega
 replace ae := ae.ai U1
 have iQ := ae.apart e3
 replace bH := bH.ai U1
 have abG := bH.apart e3
 replace dE := dE.ai U1
 have xK := dE.apart e3
 replace hF := hF.go0 U1
 have jF : w.heap.size ≤ b3 := by have := hF.size; omega
 refine bM (fun g w' => ∃ (b : Gs.Br), ((Gs.lm (Gs.vZ os) (⟨cs, cur, i, Gs.zc, false⟩ : Gs.Br)) = (b, 0)) ∧ (Z.h w' bp #[Z.i r, Z.i c, .slice A n cp, Z.i b.cur] 91) ∧ (Own B0 w' 37 5 (.slice A n cp) (rows Gs.cv b.cs)) ∧ (Z.h w' b3 #[Z.p bp, Z.i b.at', Z.u b.lk.b, .bool b.lk.ge, .bool b.lk.st, Z.u b.lk.l, Z.u b.lk.c, .bool b.ld] 229) ∧ (Rd w' oA (rows Gs.oe os)) ∧ (Gs.jU w' os) ∧ (aA (fun k => aH (.slice A n cp) k ∨ k = bp) w w')) (fun J1 hJ1 => ?_) (fun gJ1 jT hI => ?_)
 refine ak (gZ (by kernel_rfl) _ _ _) ?_
 refine ed (fun g w' => ∃ (k : Nat) (b : Gs.Br), (g 27 = Z.i (k : Int)) ∧ (k ≤ os.length) ∧ ((Gs.lm (Gs.vZ os) (⟨cs, cur, i, Gs.zc, false⟩ : Gs.Br)) = Gs.lm ((Gs.vZ os).drop k) b) ∧ (Gs.Bw r c n b) ∧ (Z.h w' bp #[Z.i r, Z.i c, .slice A n cp, Z.i b.cur] 91) ∧ (Own B0 w' 37 5 (.slice A n cp) (rows Gs.cv b.cs)) ∧ (Z.h w' b3 #[Z.p bp, Z.i b.at', Z.u b.lk.b, .bool b.lk.ge, .bool b.lk.st, Z.u b.lk.l, Z.u b.lk.c, .bool b.ld] 229) ∧ (Rd w' oA (rows Gs.oe os)) ∧ (Gs.jU w' os) ∧ (aA (fun k => aH (.slice A n cp) k ∨ k = bp) w w')) (fun g w' => os.length - (RowKit.intOf (g 27)).toNat) ?_ (fun g2 qK hI => ?_)
 replace ae := ae.ai U3
 replace bH := bH.ai U3
 replace dE := dE.ai U3
 replace ag := U3.af ag
 replace hF := hF.go0 U3
 exact ⟨0, (⟨cs, cur, i, Gs.zc, false⟩ : Gs.Br), (by rfl), Nat.zero_le _, rfl, ⟨hW, hi, Gs.Ad⟩, ag, ae, bC, bH, dE, hF⟩
 replace ae := ae.ai U3
 replace bH := bH.ai U3
 replace dE := dE.ai U3
 replace ag := U3.af ag
 replace hF := hF.go0 U3
 obtain ⟨k, b, g27, hk, hinv, hBk, ag, ae, bC, bH, dE, hF⟩ := hI
 rw [g27]
 refine az (lss _ _ _ _) (fun h4 => ?_) (fun h4 => ?_)
 refine aJ ?_
 refine sW Gs.AB (by kernel_rfl) (by kernel_rfl) bH (by rfl) (by omega) (by omega) (fun x5 hx5 => ?_)
 simp only [Int.toNat_natCast] at hx5
 refine Z.n ((Gs.oe (Gs.cO 0 0 0 false)).toArray) (fun b6 w6 e6 nU _ U6 => ?_)
 have vk : bp ≠ b6 := by have := au ag; omega
 have oZ := ae.apart e6
 have KR : b3 ≠ b6 := by have := au bC; omega
 have abH := bH.apart e6
 have abI := dE.apart e6
 have wP : w.heap.size ≤ b6 := by have := hF.size; omega
 refine Z.t 6 ((Gs.oe x5).toArray) (by (simp [Value.cells, Value.oneCell', Gs.cv, Gs.fv, Gs.ie, Gs.pe, Gs.oe, Gs.cO, Gs.fe, Gs.fM, Gs.ce, Gs.dZ, Gs.re]; done)) nU (fun w7 nU _ U7 => ?_)
 refine Z.b 6 ((Gs.oe x5).toArray) nU ?_
 replace ae := (ae.ai U6).aF U7 oZ
 replace dE := (dE.ai U6).aF U7 abI
 replace ag := U7.aj (U6.af ag) vk
 replace bC := U7.aj (U6.af bC) KR
 refine aN (ag6 (b := b) ag ae bC hBk (dE.get hx5) (how.get hx5) (hln.get hx5) (Gs.TY na1 hx5) (Gs.TY na2 hx5) (Gs.TY xK hx5)) (fun v8 w8 D8 => ?_)
 have aK := ae
 replace hF := (hF.go0 U6).go1 U7 wP
 have qF8 := hF.size
 obtain ⟨rfl, ag, ae, bC, U8⟩ := D8
 replace bH := (bH.ai U6).aF U7 abH
 replace bH := bH.dX U8 (nar1.elim .inl fun h0 => nar2.elim .inl fun h1 => abG.elim .inl fun h2 => .inr fun k hk hs => by rcases hs with (hs | hs) | hs <;> first | exact h0 k hk hs | exact h1 k hk hs | exact h2 k hk hs)
 replace dE := dE.dX U8 (na1.elim .inl fun h0 => na2.elim .inl fun h1 => xK.elim .inl fun h2 => .inr fun k hk hs => by rcases hs with (hs | hs) | hs <;> first | exact h0 k hk hs | exact h1 k hk hs | exact h2 k hk hs)
 replace hF := hF.go U8 (fun i hi hs => by (rcases hs with (hs | hs) | hs <;> first | exact .inl hs | exact .inr hs | (subst hs; omega)))
 clear aK
 refine az (kR _ _ _ _ _) (fun h9 => ?_) (fun h9 => ?_)
 refine aJ ?_
 refine dw ?_
 refine Z.f 1 ?_
 refine Z.l bC ?_
 rw [Gs.ZM hinv (Gs.WQ hx5) (by assumption)]; exact ⟨_, rfl, _, _, rfl, ag, ae, hF⟩
 refine aC ?_
 refine ak (dK _ (by omega)) ?_
 exact ⟨⟨k + 1, (Gs.sV x5.m b).1, (by rfl), by omega, (Gs.VD hinv (Gs.WQ hx5) (Classical.not_not.1 (by assumption))), (hBk.do (how.get hx5).2.1 (how.get hx5).2.2.1), ag, ae, bC, bH, dE, hF⟩, cnt_lt (by rfl) rfl (by omega)⟩
 refine aC ?_
 refine hJ1 _ _ ?_
 exact ⟨_, (Gs.ZN hinv (by omega)), ag, ae, bC, bH, dE, hF⟩
 replace ae := ae.ai U3
 replace bH := bH.ai U3
 replace dE := dE.ai U3
 replace ag := U3.af ag
 replace hF := hF.go0 U3
 obtain ⟨b, hfin, ag, ae, bC, bH, dE, hF⟩ := hI
 refine dw ?_
 refine Z.f 1 ?_
 refine Z.l bC ?_
 refine ak (gZ (by kernel_rfl) _ _ _) ?_
 rw [hfin]; exact ⟨_, rfl, _, _, rfl, ag, ae, hF⟩
theorem TZ {r c cur : Int} {A : Option Addr} {n cp bp B0 : Nat} {cs : List Gs.Cell} {w : World} (ag : Z.h w bp #[Z.i r, Z.i c, .slice A n cp, Z.i cur] 91) (ae : Own B0 w 37 5 (.slice A n cp) (rows Gs.cv cs)) (hW : Gs.Pw r c n cs cur)  :
    oX 90 #[Z.p bp] w fun e w' => ∃ v, e = .returned v ∧ ∃ q : Int, v = Z.i q ∧ Z.h w' bp #[Z.i r, Z.i c, .slice A n cp, Z.i (Gs.rZ (Gs.DC cs))] 91 ∧ Own B0 w' 37 5 (.slice A n cp) (rows Gs.cv (Gs.DC cs)) ∧ aA (fun k => aH (.slice A n cp) k ∨ k = bp) w w' := by
 refine Wh.calls ?_
 unfold Wh
 obtain ⟨hn, hcw, hcu, hp, hN, hb⟩ := id hW; have hrc := hW.rc
 have xy := au ag
 have l9 := Own.lt ae
 have hF : aA (fun k => aH (.slice A n cp) k ∨ k = bp) w w := Fr.refl _ _ _
 refine Z.x _ (fun b1 w1 e1 ah _ U1 => ?_)
 have kX : bp ≠ b1 := by have := au ag; omega
 have iq := ae.apart e1
 have bZ : w.heap.size ≤ b1 := by have := hF.size; omega
 refine bM (fun g w' => ∃ (m : Int), (g 3 = Z.i m) ∧ (Z.h w' bp #[Z.i r, Z.i c, .slice A n cp, Z.i cur] 91) ∧ (Own B0 w' 37 5 (.slice A n cp) (rows Gs.cv (Gs.o8 cs (Gs.ja cs)))) ∧ (Z.h w' b1 #[Z.p bp] 33) ∧ (aA (fun k => aH (.slice A n cp) k ∨ k = bp) w w')) (fun J1 hJ1 => ?_) (fun gJ1 jT hI => ?_)
 refine Z.l ah ?_
 replace ae := ae.ai U1
 replace ag := U1.af ag
 refine aB (fG ag ae hn) (fun w2 U2 => ?_)
 refine ed (fun g w' => ∃ (k : Nat) (m : Int), (g 9 = Z.i (k : Int)) ∧ (k ≤ n) ∧ (g 3 = Z.i m) ∧ (Z.h w' bp #[Z.i r, Z.i c, .slice A n cp, Z.i cur] 91) ∧ (Own B0 w' 37 5 (.slice A n cp) (rows Gs.cv (Gs.o8 cs ((Gs.ja cs).take k)))) ∧ (Z.h w' b1 #[Z.p bp] 33) ∧ (aA (fun k => aH (.slice A n cp) k ∨ k = bp) w w')) (fun g w' => n - (RowKit.intOf (g 9)).toNat) ?_ (fun g2 qK hI => ?_)
 replace hF := (hF.go0 U1).go0 U2
 replace ae := ae.ai U2
 replace ag := U2.af ag
 replace ah := U2.af ah
 exact ⟨0, 0, (by rfl), Nat.zero_le _, (by rfl), ag, (by rw [List.take_zero]; exact ae), ah, hF⟩
 replace hF := (hF.go0 U1).go0 U2
 replace ae := ae.ai U2
 replace ag := U2.af ag
 replace ah := U2.af ah
 obtain ⟨k, m, g9, hk, g3, ag, ae, ah, hF⟩ := hI
 rw [g9]
 rw [g3]
 have hwk := Gs.EK hcw ((Gs.ja cs).take k)
 have hlk := hn.trans hwk.2.symm
 refine az (lss _ _ _ _) (fun h3 => ?_) (fun h3 => ?_)
 refine aJ ?_
 refine bM (fun g w' => ∃ (m : Int), (g 3 = Z.i m) ∧ (Z.h w' bp #[Z.i r, Z.i c, .slice A n cp, Z.i cur] 91) ∧ (Own B0 w' 37 5 (.slice A n cp) (rows Gs.cv (Gs.o8 cs ((Gs.ja cs).take (k + 1))))) ∧ (Z.h w' b1 #[Z.p bp] 33) ∧ (aA (fun k => aH (.slice A n cp) k ∨ k = bp) w w')) (fun J3 hJ3 => ?_) (fun gJ3 JO hI => ?_)
 refine Z.l ah ?_
 refine dQ (nJ ag ae hlk hN hb hwk.1 (i := (k : Int))) (fun w4 U4 h4 => ?_) (fun w4 U4 h4 => ?_)
 refine aJ ?_
 replace ah := U4.af ah
 refine Z.l ah ?_
 refine ak (bG (l := [(0, 1), (1, 1), (2, 1), (3, 1), (4, 1)]) (z := #[Z.u 0, .bool false, .bool false, Z.u 0, Z.u 0]) (cs := (Gs.cv Gs.zc)) (by kernel_rfl) (by rfl)) ?_
 replace ae := ae.ai U4
 replace ag := U4.af ag
 refine aN (jv ag ae hlk (i := (k : Int)) (x := Gs.zc)) (fun v5 w5 D5 => ?_)
 obtain ⟨rfl, N5, U5⟩ := D5
 have aK := ae
 replace ag := U5.get ag (fun h => Own.aS aK ag (by decide) _ h rfl)
 replace ae := N5
 replace ah := U5.get ah (fun h => iq _ h rfl)
 replace hF := hF.go0 U4
 replace hF := hF.go U5 (fun i h hs => .inl hs)
 clear aK
 refine ak (FI _ _ _ _) ?_
 refine hJ3 _ _ ?_
 exact ⟨_, (by rfl), ag, (by rw [Gs.AY (Gs.AV (by omega))]; (rw [if_pos (by assumption)]; exact ae)), ah, hF⟩
 refine aC ?_
 refine hJ3 _ _ ?_
 replace ae := ae.ai U4
 replace ag := U4.af ag
 replace ah := U4.af ah
 replace hF := hF.go0 U4
 exact ⟨_, (by exact g3), ag, (by rw [Gs.AY (Gs.AV (by omega))]; (rw [if_neg (Bool.eq_false_iff.1 (by assumption))]; exact ae)), ah, hF⟩
 obtain ⟨m, g3, ag, ae, ah, hF⟩ := hI
 refine ak (dK _ (by omega)) ?_
 exact ⟨⟨k + 1, _, (by rfl), by omega, (by exact g3), ag, ae, ah, hF⟩, cnt_lt (by rfl) rfl (by omega)⟩
 refine aC ?_
 refine hJ1 _ _ ?_
 exact ⟨_, (by exact g3), ag, (by rw [List.take_of_length_le (by rw [Gs.zu]; omega)] at ae; exact ae), ah, hF⟩
 replace ae := ae.ai U1
 replace ag := U1.af ag
 replace hF := hF.go0 U1
 obtain ⟨m, g3, ag, ae, ah, hF⟩ := hI
 rw [g3]
 obtain ⟨cw, hcwd⟩ : ∃ x, x = Gs.o8 cs (Gs.ja cs) := ⟨_, rfl⟩
 have hwl := Gs.EK hcw (Gs.ja cs)
 rw [← hcwd] at ae hwl
 have hnw := hn.trans hwl.2.symm
 refine bM (fun g w' => ∃ (D5 : Nat), (g 1000000 = mkV D5 undef) ∧ (w.heap.size ≤ D5) ∧ (w'.heap[D5]? = some (.deferred (some []))) ∧ (Z.h w' bp #[Z.i r, Z.i c, .slice A n cp, Z.i cur] 91) ∧ (Own B0 w' 37 5 (.slice A n cp) (rows Gs.cv (Gs.nV cw (Gs.bU cw)))) ∧ (Z.h w' b1 #[Z.p bp] 33) ∧ (aA (fun k => aH (.slice A n cp) k ∨ k = bp) w w')) (fun J4 hJ4 => ?_) (fun gJ4 wJ4 hI => ?_)
 refine Z.l ah ?_
 refine aN (wF ag ae hnw) (fun v6 w6 D6 => ?_)
 obtain ⟨b1_23, rfl, g1_23, dY, U6⟩ := D6
 have Vt : bp ≠ b1_23 := by have := au ag; omega
 have yT : ∀ k, aH _ k → k ≠ b1_23 := fun k hk => by have := (Own.ge ae hk).2; omega
 have Vu : b1 ≠ b1_23 := by have := au ah; omega
 have ac6 : w.heap.size ≤ b1_23 := by have := hF.size; omega
 refine tJ (by kernel_rfl) (fun w7 l5 D5 Rdy5 Bsy5 Dn5 y5 eD el dG dU lp1 lp2 lp3 sz7 U7 hY => ?_)
 have lp2_5 := lp2
 replace ag := U6.af ag
 have SB : bp ≠ D5 := by have := au ag; omega
 have lJ : bp ≠ l5 := by have := au ag; omega
 replace ae := ae.ai U6
 have zq : ∀ k, aH _ k → k ≠ D5 := fun k hk => by have := (Own.ge ae hk).2; omega
 have iR : ∀ k, aH _ k → k ≠ l5 := fun k hk => by have := (Own.ge ae hk).2; omega
 replace ah := U6.af ah
 have Sz : b1 ≠ D5 := by have := au ah; omega
 have mf : b1 ≠ l5 := by have := au ah; omega
 have Vw : b1_23 ≠ D5 := by have := au dY; omega
 have o6 : b1_23 ≠ l5 := by have := au dY; omega
 replace hF := hF.go0 U6
 have xZ : w.heap.size ≤ D5 := by have := hF.size; omega
 have pY : w.heap.size ≤ l5 := by have := hF.size; omega
 have kY : D5 ≠ l5 := by omega
 replace ae := ae.ai U7
 replace ag := U7.af ag
 replace ah := U7.af ah
 replace dY := U7.af dY
 replace hF := hF.go0 U7
 refine Calls.mono (uj (b1 := b1_23) (csF := fun k => Gs.nV cw ((Gs.bU cw).take k)) (J := (fun (k : Nat) (w' : World) => (Z.h w' bp #[Z.i r, Z.i c, .slice A n cp, Z.i cur] 91) ∧ (Own B0 w' 37 5 (.slice A n cp) (rows Gs.cv (Gs.nV cw ((Gs.bU cw).take k)))) ∧ (Z.h w' b1_23 #[Z.p bp] 33) ∧ (Z.h w' b1 #[Z.p bp] 33) ∧ (w'.heap[D5]? = some (.deferred (some []))) ∧ (w'.heap[l5]? = some Rdy5) ∧ (aA (fun k => aH (.slice A n cp) k ∨ k = bp) w w'))) (X := (fun _ => False)) (fun _ w' hJ => by obtain ⟨ag, ae, dY, ah, dG, dU, hF⟩ := hJ; exact ⟨dY, ag, ae⟩) (fun _ w' w'' hJ U' => by obtain ⟨ag, ae, dY, ah, dG, dU, hF⟩ := hJ; exact ⟨U'.af ag, ae.ai U', U'.af dY, U'.af ah, U'.af dG, U'.af dU, hF.go0 U'⟩) (fun _ _ h _ => h.elim) (fun _ => hnw.trans (Gs.uB cw _)) (fun _ => Gs.AC hwl.1 _) (fun _ _ => by rw [Gs.Mc, Gs.Mc]) hN hb ?_ ?_) ?_
 intro k wl5 xk hx hI
 obtain ⟨ag, ae, dY, ah, dG, dU, hF⟩ := hI
 have hx : (Gs.bU cw)[k]? = some xk := hx
 have hk := (List.getElem?_eq_some_iff.1 hx).1
 have hxm := Gs.qc.1 (List.mem_of_getElem? hx)
 have hxn := hxm.1
 have hgw := Gs.sG (Gs.AC hwl.1 ((Gs.bU cw).take k)) (xk : Int)
 have hol := Gs.uB cw ((Gs.bU cw).take k)
 refine hY [.agg (Gs.fv (Gs.kC (Gs.nV cw ((Gs.bU cw).take k)) xk)).toArray] _ _ rfl dU ?_
 simp only [List.getD_cons_zero, List.getD_cons_succ]
 refine Z.n ((Gs.fv Gs.zf).toArray) (fun b8 w8 e8 mg _ U8 => ?_)
 have BL : bp ≠ b8 := by have := au ag; omega
 have wG := ae.apart e8
 have wH : b1_23 ≠ b8 := by have := au dY; omega
 have BM : b1 ≠ b8 := by have := au ah; omega
 have BN : D5 ≠ b8 := by have := au dG; omega
 have BO : l5 ≠ b8 := by have := au dU; omega
 have FK : w.heap.size ≤ b8 := by have := hF.size; omega
 refine Z.t 3 ((Gs.fv (Gs.kC (Gs.nV cw ((Gs.bU cw).take k)) xk)).toArray) (by (simp [Value.cells, Value.oneCell', Gs.cv, Gs.fv, Gs.ie, Gs.pe, Gs.oe, Gs.cO, Gs.fe, Gs.fM, Gs.ce, Gs.dZ, Gs.re]; done)) mg (fun w9 mg _ U9 => ?_)
 replace dU := U9.aj (U8.af dU) BO
 refine wE dU (fun w10 dU _ aY => ?_)
 refine Z.f 2 ?_
 replace mg := aY.aj mg (Ne.symm BO)
 refine Z.l mg ?_
 refine dQ (mP (Gs.SN (Gs.AC hwl.1 _) xk)) (fun nR bK h11 => ?_) (fun nR bK h11 => ?_)
 simp only [Z.d, Z.c] at h11
 refine aJ ?_
 replace dU := bK.af dU
 refine rM dU (fun w12 dU _ di => ?_)
 replace ae := ((((ae.ai U8).aF U9 wG).aF aY iR).ai bK).aF di iR
 replace ag := di.aj (bK.af (aY.aj (U9.aj (U8.af ag) BL) lJ)) lJ
 replace dY := di.aj (bK.af (aY.aj (U9.aj (U8.af dY) wH) o6)) o6
 replace ah := di.aj (bK.af (aY.aj (U9.aj (U8.af ah) BM) mf)) mf
 replace dG := di.aj (bK.af (aY.aj (U9.aj (U8.af dG) BN) kY)) kY
 replace hF := ((((hF.go0 U8).go1 U9 FK).go1 aY pY).go0 bK).go1 di pY
 exact ⟨ag, (by rw [Gs.FM hx]; have hpr := Gs.FN hx; unfold Gs.qI; (rw [if_pos (decide_eq_true (by omega))]; exact ae)), dY, ah, dG, dU, hF⟩
 simp only [Z.d, Z.c] at h11
 refine aC ?_
 replace ah := bK.af (aY.aj (U9.aj (U8.af ah) BM) mf)
 refine Z.l ah ?_
 refine Z.f 0 ?_
 replace mg := bK.af mg
 refine Z.l mg ?_
 replace ae := (((ae.ai U8).aF U9 wG).aF aY iR).ai bK
 replace ag := bK.af (aY.aj (U9.aj (U8.af ag) BL) lJ)
 refine aB (iF ag ae (hnw.trans hol) (i := (xk : Int))) (fun vY dI => ?_)
 refine Z.n ((Gs.cv Gs.zc).toArray) (fun b14 sO e14 dJ _ dC => ?_)
 replace ag := dI.af ag
 have qm : bp ≠ b14 := by have := au ag; omega
 replace ae := ae.ai dI
 have nK := ae.apart e14
 replace dY := dI.af (bK.af (aY.aj (U9.aj (U8.af dY) wH) o6))
 have vz : b1_23 ≠ b14 := by have := au dY; omega
 replace ah := dI.af ah
 have qo : b1 ≠ b14 := by have := au ah; omega
 replace dG := dI.af (bK.af (aY.aj (U9.aj (U8.af dG) BN) kY))
 have zL : D5 ≠ b14 := by have := au dG; omega
 replace dU := dI.af (bK.af dU)
 have zM : l5 ≠ b14 := by have := au dU; omega
 replace mg := dI.af mg
 have zN : b8 ≠ b14 := by have := au mg; omega
 replace hF := ((((hF.go0 U8).go1 U9 FK).go1 aY pY).go0 bK).go0 dI
 have pF : w.heap.size ≤ b14 := by have := hF.size; omega
 refine Z.t 5 ((Gs.cv (Gs.bV (Gs.nV cw ((Gs.bU cw).take k)) xk)).toArray) (by (simp [Value.cells, Value.oneCell', Gs.cv, Gs.fv, Gs.ie, Gs.pe, Gs.oe, Gs.cO, Gs.fe, Gs.fM, Gs.ce, Gs.dZ, Gs.re]; done)) dJ (fun uG dJ _ bW => ?_)
 refine Z.f 0 ?_
 refine Z.l dJ ?_
 refine aB (yf hgw) (fun w16 bQ => ?_)
 refine Z.f 0 ?_
 replace dJ := bQ.af dJ
 refine Z.s dJ (fun uS dJ _ df => ?_)
 replace ah := df.aj (bQ.af (bW.aj (dC.af ah) qo)) qo
 refine Z.l ah ?_
 refine Z.f 0 ?_
 replace mg := df.aj (bQ.af (bW.aj (dC.af mg) zN)) zN
 refine Z.l mg ?_
 refine Z.b 5 _ dJ ?_
 replace ae := (((ae.ai dC).aF bW nK).ai bQ).aF df nK
 replace ag := df.aj (bQ.af (bW.aj (dC.af ag) qm)) qm
 refine aN (jv ag ae (hnw.trans hol) (i := (xk : Int)) (x := Gs.yU false (Gs.bV (Gs.nV cw ((Gs.bU cw).take k)) xk))) (fun v18 xx D18 => ?_)
 obtain ⟨rfl, N18, dM⟩ := D18
 have aK := ae
 replace ag := dM.get ag (fun h => Own.aS aK ag (by decide) _ h rfl)
 replace ae := N18
 replace dY := df.aj (bQ.af (bW.aj (dC.af dY) vz)) vz
 replace dY := dM.get dY (fun h => yT _ h rfl)
 replace ah := dM.get ah (fun h => iq _ h rfl)
 replace dG := df.aj (bQ.af (bW.aj (dC.af dG) zL)) zL
 replace dG := dM.get dG (fun h => zq _ h rfl)
 replace dU := df.aj (bQ.af (bW.aj (dC.af dU) zM)) zM
 replace dU := dM.get dU (fun h => iR _ h rfl)
 replace hF := (((hF.go0 dC).go1 bW pF).go0 bQ).go1 df pF
 replace hF := hF.go dM (fun i h hs => .inl hs)
 clear aK
 refine rM dU (fun Ar dU _ fC => ?_)
 replace ae := ae.aF fC iR
 replace ag := fC.aj ag lJ
 replace dY := fC.aj dY o6
 replace ah := fC.aj ah mf
 replace dG := fC.aj dG kY
 replace hF := hF.go1 fC pY
 exact ⟨ag, (by rw [Gs.FM hx]; have hpr := Gs.FN hx; unfold Gs.qI; (rw [if_neg (fun hq => by have := of_decide_eq_true hq; omega)]; exact ae)), dY, ah, dG, dU, hF⟩
 exact ⟨ag, ae, dY, ah, dG, dU, hF⟩
 rintro e wE5 ⟨hv, hI | hI⟩
 obtain ⟨ag, ae, dY, ah, dG, dU, hF⟩ := hI
 refine ⟨hv, .inl ⟨dU, fun xu _ dR => ?_⟩⟩
 refine hJ4 _ _ ?_
 replace ae := ae.aF dR iR
 replace ag := dR.aj ag lJ
 replace ah := dR.aj ah mf
 replace dG := dR.aj dG kY
 replace hF := hF.go1 dR pY
 exact ⟨_, (by rfl), xZ, dG, ag, (by rw [show Gs.bU (Gs.nV cw (List.take 0 (Gs.bU cw))) = Gs.bU cw from rfl, List.take_of_length_le (Nat.le_refl _)] at ae; exact ae), ah, hF⟩
 exact hI.elim
 obtain ⟨D5, g1000000, xZ, dG, ag, ae, ah, hF⟩ := hI
 rw [g1000000]
 refine dS (S := no) (fun Dc dV => ?_)
 replace ah := dV.af ah
 refine Z.m ah ?_
 refine Z.m ah ?_
 replace ae := ae.ai dV
 replace ag := dV.af ag
 refine fO (fun w' hw' => by have ag := hw'.af ag; have ae := ae.ai hw'; exact BG ag ae (hnw.trans (Gs.uB cw _)) hN hb (Gs.AC hwl.1 _)) ?_
 have hhb := Gs.Jk (cs := (Gs.nV cw (Gs.bU cw))) (by have := Gs.uB cw (Gs.bU cw); omega)
 have hol := Gs.uB cw (Gs.bU cw)
 refine aI (fun Eu iZ => ?_)
 replace ae := ae.ai iZ
 replace ag := iZ.af ag
 refine aN (qR ag ae (hnw.trans (Gs.uB cw _)) (i := Gs.rZ (Gs.nV cw (Gs.bU cw)))) (fun v24 Pm D24 => ?_)
 obtain ⟨rfl, N24, jA⟩ := D24
 replace dG := iZ.af (dV.af dG)
 replace hF := (hF.go0 dV).go0 iZ
 replace ae := ae.aF jA (Own.aS ae (by assumption) (by decide))
 replace dG := jA.aj dG (by omega)
 replace ag := N24
 replace hF := hF.go jA (fun i _ h => .inr h)
 rw [if_pos (by omega)] at ag
 refine aI (fun GV fZ => ?_)
 replace dG := fZ.af dG
 refine leave1 dG (fun Ij _ gm => ?_)
 replace ae := ae.ai fZ
 replace ag := fZ.af ag
 replace hF := hF.go0 fZ
 replace ae := ae.aF gm (Own.kT ae (by assumption))
 replace ag := gm.aj ag (by omega)
 subst hcwd
 replace hF := hF.go1 gm xZ
 exact ⟨_, rfl, _, rfl, ag, ae, hF⟩
theorem Ag {s : Gs.iL} {pv : Option Addr} {bs : Nat} {w : World} (ay : Z.h w bs #[Z.i s.r0, Z.i s.c0, Z.i s.r1, Z.i s.c1, Z.i s.wh, .pointer pv] 89) (hz0 : Gs.aZ s.r0 s.c0 ≠ 0) (hz1 : Gs.aZ s.r1 s.c1 ≠ 0) :
    oX 82 #[Z.p bs, Z.i 0] w fun e w' => ∃ v, e = .returned v ∧ ∃ bp g, Z.h w' bs #[Z.i (Gs.bP s 0).r0, Z.i (Gs.bP s 0).c0, Z.i (Gs.bP s 0).r1, Z.i (Gs.bP s 0).c1, Z.i (Gs.bP s 0).wh, Z.p bp] 89 ∧ w.heap.size ≤ bp ∧ Z.h w' bp #[Z.i (Gs.bP s 0).r, Z.i (Gs.bP s 0).c, .slice (some ⟨g, 0, none⟩) (Gs.bP s 0).cs.length (Gs.bP s 0).cs.length, Z.i (Gs.bP s 0).cur] 91 ∧ Own w.heap.size w' 37 5 (.slice (some ⟨g, 0, none⟩) (Gs.bP s 0).cs.length (Gs.bP s 0).cs.length) (rows Gs.cv (Gs.bP s 0).cs) ∧ aA (· = bs) w w' := by
 refine PH.calls ?_
 unfold PH
 have hF : aA (· = bs) w w := Fr.refl _ _ _
 refine dw ?_
 refine Z.f 4 ?_
 refine Z.s ay (fun w1 ay _ U1 => ?_)
 replace hF := hF.go U1 (fun i _ h => h)
 refine dw ?_
 refine Z.f 0 ?_
 refine ak (Gh (n := 2) (m := 2) (by kernel_rfl) (by decide) (by decide)) ?_
 refine Z.b 2 _ ay ?_
 refine aN (yz (r := s.r0) (c := s.c0) hz0) (fun v3 w3 D3 => ?_)
 obtain ⟨bp, g, rfl, gbp, ag, ae, U3⟩ := D3
 rw [← Gs.Cj s.r0 s.c0] at ag ae
 rw [show List.replicate (Gs.Gi s.r0 s.c0).length Gs.zc = Gs.Gi s.r0 s.c0 by rw [Gs.Cj]; rfl] at ae
 have tY : bs ≠ bp := by have := au ay; omega
 have qJ : w.heap.size ≤ bp := by have := hF.size; omega
 replace ae := ae.mono (B' := w.heap.size) hF.size
 refine Z.e ?_
 refine Z.e ?_
 refine dw ?_
 refine Z.f 5 ?_
 replace ay := U3.af ay
 refine Z.s ay (fun w4 ay _ U4 => ?_)
 replace ae := ae.aF U4 (Own.aS ae (by assumption) (by decide))
 replace hF := hF.go0 U3
 replace hF := hF.go U4 (fun i _ h => h)
 replace ag := U4.aj ag (Ne.symm tY)
 exact ⟨_, rfl, bp, g, ay, qJ, ag, ae, hF⟩
theorem G8 {s : Gs.iL} {pv : Option Addr} {bs : Nat} {w : World} (ay : Z.h w bs #[Z.i s.r0, Z.i s.c0, Z.i s.r1, Z.i s.c1, Z.i s.wh, .pointer pv] 89) (hz0 : Gs.aZ s.r0 s.c0 ≠ 0) (hz1 : Gs.aZ s.r1 s.c1 ≠ 0) :
    oX 82 #[Z.p bs, Z.i 1] w fun e w' => ∃ v, e = .returned v ∧ ∃ bp g, Z.h w' bs #[Z.i (Gs.bP s 1).r0, Z.i (Gs.bP s 1).c0, Z.i (Gs.bP s 1).r1, Z.i (Gs.bP s 1).c1, Z.i (Gs.bP s 1).wh, Z.p bp] 89 ∧ w.heap.size ≤ bp ∧ Z.h w' bp #[Z.i (Gs.bP s 1).r, Z.i (Gs.bP s 1).c, .slice (some ⟨g, 0, none⟩) (Gs.bP s 1).cs.length (Gs.bP s 1).cs.length, Z.i (Gs.bP s 1).cur] 91 ∧ Own w.heap.size w' 37 5 (.slice (some ⟨g, 0, none⟩) (Gs.bP s 1).cs.length (Gs.bP s 1).cs.length) (rows Gs.cv (Gs.bP s 1).cs) ∧ aA (· = bs) w w' := by
 refine PH.calls ?_
 unfold PH
 have hF : aA (· = bs) w w := Fr.refl _ _ _
 refine dw ?_
 refine Z.f 4 ?_
 refine Z.s ay (fun w1 ay _ U1 => ?_)
 replace hF := hF.go U1 (fun i _ h => h)
 refine dw ?_
 refine Z.f 0 ?_
 refine ak (Gh (n := 2) (m := 2) (by kernel_rfl) (by decide) (by decide)) ?_
 refine Z.b 2 (#[Z.i s.r1, Z.i s.c1]) ay ?_
 refine aN (yz (r := s.r1) (c := s.c1) hz1) (fun v3 w3 D3 => ?_)
 obtain ⟨bp, g, rfl, gbp, ag, ae, U3⟩ := D3
 rw [← Gs.Cj s.r1 s.c1] at ag ae
 rw [show List.replicate (Gs.Gi s.r1 s.c1).length Gs.zc = Gs.Gi s.r1 s.c1 by rw [Gs.Cj]; rfl] at ae
 have tY : bs ≠ bp := by have := au ay; omega
 have qJ : w.heap.size ≤ bp := by have := hF.size; omega
 replace ae := ae.mono (B' := w.heap.size) hF.size
 refine Z.e ?_
 refine Z.e ?_
 refine dw ?_
 refine Z.f 5 ?_
 replace ay := U3.af ay
 refine Z.s ay (fun w4 ay _ U4 => ?_)
 replace ae := ae.aF U4 (Own.aS ae (by assumption) (by decide))
 replace hF := hF.go0 U3
 replace hF := hF.go U4 (fun i _ h => h)
 replace ag := U4.aj ag (Ne.symm tY)
 exact ⟨_, rfl, bp, g, ay, qJ, ag, ae, hF⟩
theorem Ua {s : Gs.iL} {pv : Option Addr} {bs : Nat} {w : World} (ay : Z.h w bs #[Z.i s.r0, Z.i s.c0, Z.i s.r1, Z.i s.c1, Z.i s.wh, .pointer pv] 89) (hz0 : Gs.aZ s.r0 s.c0 ≠ 0) (hz1 : Gs.aZ s.r1 s.c1 ≠ 0) {j : Int} (hj : j = 0 ∨ j = 1) :
    oX 82 #[Z.p bs, Z.i j] w (fun e w' => ∃ v, e = .returned v ∧ ∃ bp g, Z.h w' bs #[Z.i (Gs.bP s j).r0, Z.i (Gs.bP s j).c0, Z.i (Gs.bP s j).r1, Z.i (Gs.bP s j).c1, Z.i (Gs.bP s j).wh, Z.p bp] 89 ∧ w.heap.size ≤ bp ∧ Z.h w' bp #[Z.i (Gs.bP s j).r, Z.i (Gs.bP s j).c, .slice (some ⟨g, 0, none⟩) (Gs.bP s j).cs.length (Gs.bP s j).cs.length, Z.i (Gs.bP s j).cur] 91 ∧ Own w.heap.size w' 37 5 (.slice (some ⟨g, 0, none⟩) (Gs.bP s j).cs.length (Gs.bP s j).cs.length) (rows Gs.cv (Gs.bP s j).cs) ∧ aA (· = bs) w w') := by
 rcases hj with rfl | rfl
 exact Ag ay hz0 hz1
 exact G8 ay hz0 hz1
abbrev WR (s' : Gs.iL) (res : Gs.vJ) (A : Option Addr) (n cp bp bs B0 : Nat) (w : World) : Ending → World → Prop := fun e w' => ∃ v, e = .returned v ∧ v = .agg (Gs.re res).toArray ∧ ∃ (bp' : Nat) (A' : Option Addr) (n' cp' : Nat), Z.h w' bs #[Z.i s'.r0, Z.i s'.c0, Z.i s'.r1, Z.i s'.c1, Z.i s'.wh, Z.p bp'] 89 ∧ Z.h w' bp' #[Z.i s'.r, Z.i s'.c, .slice A' n' cp', Z.i s'.cur] 91 ∧ Own B0 w' 37 5 (.slice A' n' cp') (rows Gs.cv s'.cs) ∧ n' = s'.cs.length ∧ (bp' = bp ∨ w.heap.size ≤ bp') ∧ (∀ k, aH (.slice A' n' cp') k → aH (.slice A n cp) k ∨ w.heap.size ≤ k) ∧ aA (fun k => (aH (.slice A n cp) k ∨ k = bp) ∨ k = bs) w w'
set_option maxHeartbeats 1000000 in
theorem Ea {s : Gs.iL} {A : Option Addr} {n cp bp bs B0 : Nat} {w : World} (ay : Z.h w bs #[Z.i s.r0, Z.i s.c0, Z.i s.r1, Z.i s.c1, Z.i s.wh, Z.p bp] 89) (ag : Z.h w bp #[Z.i s.r, Z.i s.c, .slice A n cp, Z.i s.cur] 91) (ae : Own B0 w 37 5 (.slice A n cp) (rows Gs.cv s.cs)) (hS : Gs.Sw n s) {x : Gs.pq} {fA : Option Addr} {fn fc : Nat} (gy : Gs.gU w [⟨0, 0, x⟩]) (hwx : Gs.Ap x) (hlx : Gs.EL x.os ∧ x.os.length ≤ 100000) (nax1 : [(⟨0, 0, x⟩ : Gs.Fd)] = [] ∨ ∀ k, Gs.kP [⟨0, 0, x⟩] k → ¬ aH (.slice A n cp) k) (nax2 : [(⟨0, 0, x⟩ : Gs.Fd)] = [] ∨ ∀ k, Gs.kP [⟨0, 0, x⟩] k → k ≠ bp) (nax3 : [(⟨0, 0, x⟩ : Gs.Fd)] = [] ∨ ∀ k, Gs.kP [⟨0, 0, x⟩] k → k ≠ bs) {i : Int} (hi : 0 ≤ i ∧ i < n) :
    oX 108 #[Z.p bs, .agg (Gs.ce x fA fn fc).toArray, Z.i i] w fun e w' => ∃ v, e = .returned v ∧ v = .agg (Gs.re (Gs.qy s x.m i).2).toArray ∧ Z.h w' bp #[Z.i (Gs.qy s x.m i).1.r, Z.i (Gs.qy s x.m i).1.c, .slice A n cp, Z.i (Gs.qy s x.m i).1.cur] 91 ∧ Own B0 w' 37 5 (.slice A n cp) (rows Gs.cv (Gs.qy s x.m i).1.cs) ∧ aA (fun k => aH (.slice A n cp) k ∨ k = bp) w w' := by
 refine YQ.calls ?_
 unfold YQ
 have hW := hS.2
 obtain ⟨hn, hcw, hcu, hp, hN, hb⟩ := id hW
 have hF : aA (fun k => aH (.slice A n cp) k ∨ k = bp) w w := Fr.refl _ _ _
 refine Z.x ((Gs.ce x fA fn fc).toArray) (fun b1 w1 e1 ah _ U1 => ?_)
 have kX : bp ≠ b1 := by have := au ag; omega
 refine Z.n ((Gs.re Gs.pW).toArray) (fun b2 w2 e2 ax _ U2 => ?_)
 replace ag := U1.af ag
 have eU : bp ≠ b2 := by have := au ag; omega
 replace ae := ae.ai U1
 have dF := ae.apart e2
 replace hF := hF.go0 U1
 have eQ : w.heap.size ≤ b2 := by have := hF.size; omega
 refine dS (S := (fun k => aH (.slice A n cp) k ∨ k = bp)) (fun w3 U3 => ?_)
 refine fV ?_
 refine Z.g 5 ?_
 replace ay := U3.af (U2.af (U1.af ay))
 refine bJ (fun w' hw' => by have ay := (Fr.jg hw').af ay; exact (kZ (by kernel_rfl) ay (by rfl))) ?_
 refine Z.g 2 ?_
 replace ah := U3.af (U2.af ah)
 refine bJ (fun w' hw' => by have ah := (Fr.jg hw').af ah; exact (kZ (by kernel_rfl) ah (by rfl))) ?_
 refine aI (fun w4 U4 => ?_)
 refine jm ?_
 replace gy := (((gy.ai U1).ai U2).ai U3).ai U4
 replace ae := ((ae.ai U2).ai U3).ai U4
 replace ag := U4.af (U3.af (U2.af ag))
 refine aN (QL ag ae hW gy.c.1 rfl hlx.2 gy.c.2 hwx.2.2 hlx.1 (Gs.ajh nax1) (Gs.ajh nax2) (Gs.aji nax1) (Gs.aji nax2) hi) (fun v5 w5 D5 => ?_)
 have aK := ae
 replace hF := ((hF.go0 U2).go0 U3).go0 U4
 have qF5 := hF.size
 obtain ⟨at18, dn18, rfl, ag, ae, U5⟩ := D5
 replace ay := U4.af ay
 replace ay := U5.get ay (fun hs => by rcases hs with hs | hs <;> first | (first | exact Own.aS aK ay (by decide) _ hs rfl | (have := Own.ge aK hs; omega)) | (exact absurd hs (by exact dW (by assumption) (by assumption) (by decide))))
 replace gy := gy.dX U5 (nax1.elim .inl fun h0 => nax2.elim .inl fun h1 => .inr fun k hk hs => by rcases hs with hs | hs <;> first | exact h0 k hk hs | exact h1 k hk hs)
 replace ah := U4.af ah
 replace ah := U5.get ah (fun hs => by rcases hs with hs | hs <;> first | (first | exact Own.aS aK ah (by decide) _ hs rfl | (have := Own.ge aK hs; omega)) | (exact absurd hs (Ne.symm kX)))
 replace ax := U4.af (U3.af ax)
 replace ax := U5.get ax (fun hs => by rcases hs with hs | hs <;> first | (first | exact Own.aS aK ax (by decide) _ hs rfl | (have := Own.ge aK hs; omega)) | (exact absurd hs (Ne.symm eU)))
 replace hF := hF.go U5 (fun i hi hs => by exact hs)
 clear aK
 refine ⟨U5, ?_⟩
 refine bJ (fun w' hw' => (Dv (by rfl))) ?_
 refine bJ (fun w' hw' => (Dv (by rfl))) ?_
 refine bJ (fun w' hw' => (Dv (by rfl))) ?_
 refine aI (fun w6 U6 => ?_)
 refine bM (fun g w' => (g 9 = Z.i (if (Gs.lm x.m.os (Gs.IR s i)).2 = 0 then x.e else (Gs.lm x.m.os (Gs.IR s i)).2)) ∧ (Z.h w' bs #[Z.i s.r0, Z.i s.c0, Z.i s.r1, Z.i s.c1, Z.i s.wh, Z.p bp] 89) ∧ (Z.h w' bp #[Z.i (Gs.qy s x.m i).1.r, Z.i (Gs.qy s x.m i).1.c, .slice A n cp, Z.i (Gs.qy s x.m i).1.cur] 91) ∧ (Own B0 w' 37 5 (.slice A n cp) (rows Gs.cv (Gs.qy s x.m i).1.cs)) ∧ (Gs.gU w' [⟨0, 0, x⟩]) ∧ (Z.h w' b1 ((Gs.ce x fA fn fc).toArray) 124) ∧ (Z.h w' b2 ((Gs.re Gs.pW).toArray) 66) ∧ (aA (fun k => aH (.slice A n cp) k ∨ k = bp) w w')) (fun J1 hJ1 => ?_) (fun gJ1 jT hI => ?_)
 refine az (cZ _ _ _ _ _) (fun h7 => ?_) (fun h7 => ?_)
 refine aJ ?_
 refine Z.f 3 ?_
 replace ah := U6.af ah
 refine Z.l ah ?_
 refine hJ1 _ _ ?_
 replace gy := gy.ai U6
 replace ae := ae.ai U6
 replace ay := U6.af ay
 replace ax := U6.af ax
 replace ag := U6.af ag
 replace hF := hF.go0 U6
 exact ⟨(congrArg (Value.int .i64) (by exact (if_pos (by assumption)).symm)), ay, ag, ae, gy, ah, ax, hF⟩
 refine aC ?_
 refine hJ1 _ _ ?_
 replace gy := gy.ai U6
 replace ae := ae.ai U6
 replace ay := U6.af ay
 replace ah := U6.af ah
 replace ax := U6.af ax
 replace ag := U6.af ag
 replace hF := hF.go0 U6
 exact ⟨(congrArg (Value.int .i64) (by exact (if_neg (by assumption)).symm)), ay, ag, ae, gy, ah, ax, hF⟩
 replace gy := gy.ai U6
 replace ae := ae.ai U6
 replace ay := U6.af ay
 replace ah := U6.af ah
 replace ax := U6.af ax
 replace ag := U6.af ag
 replace hF := hF.go0 U6
 obtain ⟨g9, ay, ag, ae, gy, ah, ax, hF⟩ := hI
 rw [g9]
 refine az (kR _ _ _ _ _) (fun h8 => ?_) (fun h8 => ?_)
 refine aJ ?_
 refine ak (bG (l := [(0, 1), (1, 1), (2, 1), (3, 1)]) (z := #[Z.u 0, .bool false, .bool false, Z.i 0]) (cs := Gs.re (Gs.wL (if (Gs.lm x.m.os (Gs.IR s i)).2 = 0 then x.e else (Gs.lm x.m.os (Gs.IR s i)).2))) (by kernel_rfl) (by rfl)) ?_
 refine Z.t 4 ((Gs.re (Gs.wL (if (Gs.lm x.m.os (Gs.IR s i)).2 = 0 then x.e else (Gs.lm x.m.os (Gs.IR s i)).2))).toArray) (by (simp [Value.cells, Value.oneCell', Gs.cv, Gs.fv, Gs.ie, Gs.pe, Gs.oe, Gs.cO, Gs.fe, Gs.fM, Gs.ce, Gs.dZ, Gs.re]; done)) ax (fun w10 ax _ aY => ?_)
 refine Z.a 4 ax ?_
 replace ae := ae.aF aY dF
 replace ag := aY.aj ag eU
 replace hF := hF.go1 aY eQ
 exact ⟨_, rfl, (congrArg (fun q => Value.agg (Gs.re q).toArray) (Gs.ajj (c := x.m) (by assumption)).symm), ag, ae, hF⟩
 refine aC ?_
 refine dS (S := no) (fun w12 di => ?_)
 refine Z.g 1 ?_
 replace ah := di.af ah
 refine Z.m ah ?_
 refine fO (fun w' hw' => QA hwx.2.1) ?_
 refine Z.g 1 ?_
 refine Z.m ah ?_
 refine fO (fun w' hw' => UZ hwx.2.1) ?_
 refine bJ (fun w' hw' => (bG (l := [(0, 1), (1, 1), (2, 1), (3, 1)]) (z := #[Z.u 0, .bool false, .bool false, Z.i 0]) (cs := Gs.re ⟨0, decide (x.w / 2 % 2 = 1), decide (x.w / 4 % 2 = 1), 0⟩) (by kernel_rfl) (by rfl))) ?_
 refine aI (fun w16 bQ => ?_)
 replace ax := bQ.af (di.af ax)
 refine Z.t 4 ((Gs.re ⟨0, decide (x.w / 2 % 2 = 1), decide (x.w / 4 % 2 = 1), 0⟩).toArray) (by (simp [Value.cells, Value.oneCell', Gs.cv, Gs.fv, Gs.ie, Gs.pe, Gs.oe, Gs.cO, Gs.fe, Gs.fM, Gs.ce, Gs.dZ, Gs.re]; done)) ax (fun uS ax _ df => ?_)
 refine aI (fun xx dM => ?_)
 replace ax := dM.af ax
 refine Z.a 4 ax ?_
 replace ae := (((ae.ai di).ai bQ).aF df dF).ai dM
 replace ag := dM.af (df.aj (bQ.af (di.af ag)) eU)
 replace hF := (((hF.go0 di).go0 bQ).go1 df eQ).go0 dM
 exact ⟨_, rfl, (congrArg (fun q => Value.agg (Gs.re q).toArray) (Gs.aaO (c := x.m) (Classical.not_not.1 (by assumption))).symm), ag, ae, hF⟩
theorem Ub {n0 : Nat} {s : Gs.iL} {pv : Option Addr} {bs : Nat} {w : World} (ay : Z.h w bs #[Z.i s.r0, Z.i s.c0, Z.i s.r1, Z.i s.c1, Z.i s.wh, .pointer pv] 89) (hS : Gs.Sw n0 s) {x : Gs.pq} {fA : Option Addr} {fn fc : Nat} (gy : Gs.gU w [⟨0, 0, x⟩]) (hwx : Gs.Ap x) (hlx : Gs.EL x.os ∧ x.os.length ≤ 100000) (nax3 : [(⟨0, 0, x⟩ : Gs.Fd)] = [] ∨ ∀ k, Gs.kP [⟨0, 0, x⟩] k → k ≠ bs) :
    oX 109 #[Z.p bs, .agg (Gs.ce x fA fn fc).toArray, Z.i 0] w fun e w' => ∃ v, e = .returned v ∧ v = .agg (Gs.re (Gs.iO s x.m 0).2).toArray ∧ ∃ bp g, Z.h w' bs #[Z.i (Gs.iO s x.m 0).1.r0, Z.i (Gs.iO s x.m 0).1.c0, Z.i (Gs.iO s x.m 0).1.r1, Z.i (Gs.iO s x.m 0).1.c1, Z.i (Gs.iO s x.m 0).1.wh, Z.p bp] 89 ∧ w.heap.size ≤ bp ∧ Z.h w' bp #[Z.i (Gs.iO s x.m 0).1.r, Z.i (Gs.iO s x.m 0).1.c, .slice (some ⟨g, 0, none⟩) (Gs.iO s x.m 0).1.cs.length (Gs.iO s x.m 0).1.cs.length, Z.i (Gs.iO s x.m 0).1.cur] 91 ∧ Own w.heap.size w' 37 5 (.slice (some ⟨g, 0, none⟩) (Gs.iO s x.m 0).1.cs.length (Gs.iO s x.m 0).1.cs.length) (rows Gs.cv (Gs.iO s x.m 0).1.cs) ∧ aA (· = bs) w w' := by
 refine Oy.calls ?_
 unfold Oy
 have ag7 := au ay
 have ajk := gy.lt
 have hF : aA (· = bs) w w := Fr.refl _ _ _
 refine Z.x ((Gs.ce x fA fn fc).toArray) (fun b1 w1 e1 ah _ U1 => ?_)
 have xq : bs ≠ b1 := by have := au ay; omega
 have abJ := gy.apart e1
 have bZ : w.heap.size ≤ b1 := by have := hF.size; omega
 refine Z.n ((Gs.re Gs.pW).toArray) (fun b2 w2 e2 ax _ U2 => ?_)
 replace ay := U1.af ay
 have iV : bs ≠ b2 := by have := au ay; omega
 replace gy := gy.ai U1
 have abK := gy.apart e2
 have lI : b1 ≠ b2 := by have := au ah; omega
 replace hF := hF.go0 U1
 have eQ : w.heap.size ≤ b2 := by have := hF.size; omega
 replace ay := U2.af ay
 refine aN (Ag ay hS.1.1 hS.1.2) (fun v3 w3 D3 => ?_)
 obtain ⟨bp, g, N3, gbp, ag, ae, U3⟩ := D3
 have hS1 := hS.renew 0
 have hp1 := hS1.2.2.2.2.1
 have hc1 : (Gs.bP s 0).cur = 0 := by unfold Gs.bP; split <;> rfl
 have tY : bs ≠ bp := by have := au ay; omega
 replace gy := gy.ai U2
 have abL := (gy.lt).ne (b := bp) (by omega)
 replace ah := U2.af ah
 have KT : b1 ≠ bp := by have := au ah; omega
 have Cm : b2 ≠ bp := by have := au ax; omega
 replace hF := hF.go0 U2
 have qJ : w.heap.size ≤ bp := by have := hF.size; omega
 have OQ : ¬ aH _ bs := fun h => by have := (Own.ge ae h).1; have := au ay; omega
 have QM : _ ∨ ∀ k, _ → ¬ aH _ k := (gy.lt).imp_right fun h k hk hs => by have := h k hk; have := (Own.ge ae hs).1; omega
 have OT : ¬ aH _ b1 := fun h => by have := (Own.ge ae h).1; have := au ah; omega
 have OU : ¬ aH _ b2 := fun h => by have := (Own.ge ae h).1; have := au ax; omega
 replace ae := ae.mono (B' := w.heap.size) hF.size
 replace ay := N3
 replace hF := hF.go U3 (fun i _ h => h)
 replace ah := U3.aj ah (Ne.symm xq)
 refine Z.b 5 ((Gs.ce x fA fn fc).toArray) ah ?_
 replace gy := gy.aF U3 nax3
 replace ax := U3.aj ax (Ne.symm iV)
 refine aN (Ea (s := (Gs.bP s 0)) ay ag ae hS1 gy hwx hlx (by assumption) (by assumption) nax3 (i := 0) ⟨by decide, by omega⟩) (fun v4 w4 D4 => ?_)
 have aK := ae
 have qF4 := hF.size
 obtain ⟨rfl, ag, ae, U4⟩ := D4
 replace ay := U4.get ay (fun hs => by rcases hs with hs | hs <;> first | (first | exact Own.aS aK ay (by decide) _ hs rfl | (have := Own.ge aK hs; omega)) | (exact absurd hs tY))
 replace ax := U4.get ax (fun hs => by rcases hs with hs | hs <;> first | (first | exact Own.aS aK ax (by decide) _ hs rfl | (have := Own.ge aK hs; omega)) | (exact absurd hs Cm))
 replace hF := hF.go U4 (fun i hi hs => by (rcases hs with hs | hs <;> first | (subst hs; omega) | (have := (Own.ge aK hs).1; omega)))
 clear aK
 refine Z.t 4 ((Gs.re (Gs.iO s x.m 0).2).toArray) (by (simp [Value.cells, Value.oneCell', Gs.cv, Gs.fv, Gs.ie, Gs.pe, Gs.oe, Gs.cO, Gs.fe, Gs.fM, Gs.ce, Gs.dZ, Gs.re]; done)) ax (fun w5 ax _ U5 => ?_)
 replace ae := ae.aF U5 (Own.aS ae (by assumption) (by decide))
 refine Z.a 4 ax ?_
 replace ag := U5.aj ag (Ne.symm Cm)
 rw [(hS.erase (c := x.m) (Gs.rX.of hwx.2.2) 0).2.1] at ag ae
 replace ay := U5.aj ay iV
 replace hF := hF.go1 U5 eQ
 exact ⟨_, rfl, rfl, bp, g, ay, qJ, ag, ae, hF⟩
theorem Uc {n0 : Nat} {s : Gs.iL} {pv : Option Addr} {bs : Nat} {w : World} (ay : Z.h w bs #[Z.i s.r0, Z.i s.c0, Z.i s.r1, Z.i s.c1, Z.i s.wh, .pointer pv] 89) (hS : Gs.Sw n0 s) {x : Gs.pq} {fA : Option Addr} {fn fc : Nat} (gy : Gs.gU w [⟨0, 0, x⟩]) (hwx : Gs.Ap x) (hlx : Gs.EL x.os ∧ x.os.length ≤ 100000) (nax3 : [(⟨0, 0, x⟩ : Gs.Fd)] = [] ∨ ∀ k, Gs.kP [⟨0, 0, x⟩] k → k ≠ bs) :
    oX 109 #[Z.p bs, .agg (Gs.ce x fA fn fc).toArray, Z.i 1] w fun e w' => ∃ v, e = .returned v ∧ v = .agg (Gs.re (Gs.iO s x.m 1).2).toArray ∧ ∃ bp g, Z.h w' bs #[Z.i (Gs.iO s x.m 1).1.r0, Z.i (Gs.iO s x.m 1).1.c0, Z.i (Gs.iO s x.m 1).1.r1, Z.i (Gs.iO s x.m 1).1.c1, Z.i (Gs.iO s x.m 1).1.wh, Z.p bp] 89 ∧ w.heap.size ≤ bp ∧ Z.h w' bp #[Z.i (Gs.iO s x.m 1).1.r, Z.i (Gs.iO s x.m 1).1.c, .slice (some ⟨g, 0, none⟩) (Gs.iO s x.m 1).1.cs.length (Gs.iO s x.m 1).1.cs.length, Z.i (Gs.iO s x.m 1).1.cur] 91 ∧ Own w.heap.size w' 37 5 (.slice (some ⟨g, 0, none⟩) (Gs.iO s x.m 1).1.cs.length (Gs.iO s x.m 1).1.cs.length) (rows Gs.cv (Gs.iO s x.m 1).1.cs) ∧ aA (· = bs) w w' := by
 refine Oy.calls ?_
 unfold Oy
 have ag7 := au ay
 have ajk := gy.lt
 have hF : aA (· = bs) w w := Fr.refl _ _ _
 refine Z.x ((Gs.ce x fA fn fc).toArray) (fun b1 w1 e1 ah _ U1 => ?_)
 have xq : bs ≠ b1 := by have := au ay; omega
 have abJ := gy.apart e1
 have bZ : w.heap.size ≤ b1 := by have := hF.size; omega
 refine Z.n ((Gs.re Gs.pW).toArray) (fun b2 w2 e2 ax _ U2 => ?_)
 replace ay := U1.af ay
 have iV : bs ≠ b2 := by have := au ay; omega
 replace gy := gy.ai U1
 have abK := gy.apart e2
 have lI : b1 ≠ b2 := by have := au ah; omega
 replace hF := hF.go0 U1
 have eQ : w.heap.size ≤ b2 := by have := hF.size; omega
 replace ay := U2.af ay
 refine aN (G8 ay hS.1.1 hS.1.2) (fun v3 w3 D3 => ?_)
 obtain ⟨bp, g, N3, gbp, ag, ae, U3⟩ := D3
 have hS1 := hS.renew 1
 have hp1 := hS1.2.2.2.2.1
 have hc1 : (Gs.bP s 1).cur = 0 := by unfold Gs.bP; split <;> rfl
 have tY : bs ≠ bp := by have := au ay; omega
 replace gy := gy.ai U2
 have abL := (gy.lt).ne (b := bp) (by omega)
 replace ah := U2.af ah
 have KT : b1 ≠ bp := by have := au ah; omega
 have Cm : b2 ≠ bp := by have := au ax; omega
 replace hF := hF.go0 U2
 have qJ : w.heap.size ≤ bp := by have := hF.size; omega
 have OQ : ¬ aH _ bs := fun h => by have := (Own.ge ae h).1; have := au ay; omega
 have QM : _ ∨ ∀ k, _ → ¬ aH _ k := (gy.lt).imp_right fun h k hk hs => by have := h k hk; have := (Own.ge ae hs).1; omega
 have OT : ¬ aH _ b1 := fun h => by have := (Own.ge ae h).1; have := au ah; omega
 have OU : ¬ aH _ b2 := fun h => by have := (Own.ge ae h).1; have := au ax; omega
 replace ae := ae.mono (B' := w.heap.size) hF.size
 replace ay := N3
 replace hF := hF.go U3 (fun i _ h => h)
 replace ah := U3.aj ah (Ne.symm xq)
 refine Z.b 5 ((Gs.ce x fA fn fc).toArray) ah ?_
 replace gy := gy.aF U3 nax3
 replace ax := U3.aj ax (Ne.symm iV)
 refine aN (Ea (s := (Gs.bP s 1)) ay ag ae hS1 gy hwx hlx (by assumption) (by assumption) nax3 (i := 0) ⟨by decide, by omega⟩) (fun v4 w4 D4 => ?_)
 have aK := ae
 have qF4 := hF.size
 obtain ⟨rfl, ag, ae, U4⟩ := D4
 replace ay := U4.get ay (fun hs => by rcases hs with hs | hs <;> first | (first | exact Own.aS aK ay (by decide) _ hs rfl | (have := Own.ge aK hs; omega)) | (exact absurd hs tY))
 replace ax := U4.get ax (fun hs => by rcases hs with hs | hs <;> first | (first | exact Own.aS aK ax (by decide) _ hs rfl | (have := Own.ge aK hs; omega)) | (exact absurd hs Cm))
 replace hF := hF.go U4 (fun i hi hs => by (rcases hs with hs | hs <;> first | (subst hs; omega) | (have := (Own.ge aK hs).1; omega)))
 clear aK
 refine Z.t 4 ((Gs.re (Gs.iO s x.m 1).2).toArray) (by (simp [Value.cells, Value.oneCell', Gs.cv, Gs.fv, Gs.ie, Gs.pe, Gs.oe, Gs.cO, Gs.fe, Gs.fM, Gs.ce, Gs.dZ, Gs.re]; done)) ax (fun w5 ax _ U5 => ?_)
 replace ae := ae.aF U5 (Own.aS ae (by assumption) (by decide))
 refine Z.a 4 ax ?_
 replace ag := U5.aj ag (Ne.symm Cm)
 rw [(hS.erase (c := x.m) (Gs.rX.of hwx.2.2) 1).2.1] at ag ae
 replace ay := U5.aj ay iV
 replace hF := hF.go1 U5 eQ
 exact ⟨_, rfl, rfl, bp, g, ay, qJ, ag, ae, hF⟩
theorem ZO {x : Int} {w : World} (hx : 0 ≤ x ∧ x ≤ 255) :
    oX 172 #[Z.u x] w fun e w' => e = .returned (Z.i (if x = 0 then 0 else 1)) ∧ aA no w w' := by
 refine Y3.calls ?_
 unfold Y3
 have hF : aA no w w := Fr.refl _ _ _
 refine az (cZ _ _ _ _ _) (fun h1 => ?_) (fun h1 => ?_)
 refine aJ ?_
 rw [if_pos (by assumption)]; exact ⟨rfl, hF⟩
 refine aC ?_
 rw [if_neg (by assumption)]; exact ⟨rfl, hF⟩
set_option maxHeartbeats 2000000 in
theorem PU {s : Gs.iL} {A : Option Addr} {n cp bp bs B0 : Nat} {w : World} (ay : Z.h w bs #[Z.i s.r0, Z.i s.c0, Z.i s.r1, Z.i s.c1, Z.i s.wh, Z.p bp] 89) (ag : Z.h w bp #[Z.i s.r, Z.i s.c, .slice A n cp, Z.i s.cur] 91) (ae : Own B0 w 37 5 (.slice A n cp) (rows Gs.cv s.cs)) (hS : Gs.Sw n s) (hB0 : B0 ≤ w.heap.size) {x : Gs.pq} {fA : Option Addr} {fn fc : Nat} (gy : Gs.gU w [⟨0, 0, x⟩]) (hwx : Gs.Ap x) (hlx : Gs.EL x.os ∧ x.os.length ≤ 100000) (nax1 : [(⟨0, 0, x⟩ : Gs.Fd)] = [] ∨ ∀ k, Gs.kP [⟨0, 0, x⟩] k → ¬ aH (.slice A n cp) k) (nax2 : [(⟨0, 0, x⟩ : Gs.Fd)] = [] ∨ ∀ k, Gs.kP [⟨0, 0, x⟩] k → k ≠ bp) (nax3 : [(⟨0, 0, x⟩ : Gs.Fd)] = [] ∨ ∀ k, Gs.kP [⟨0, 0, x⟩] k → k ≠ bs) (hk243 : ¬ x.k = 243) :
    oX 65 #[Z.p bs, .agg (Gs.ce x fA fn fc).toArray] w (WR (Gs.oM s x.m).1 (Gs.oM s x.m).2 A n cp bp bs B0 w) := by
 refine Wx.calls ?_
 unfold Wx
 have hW := hS.2
 obtain ⟨hn, hcw, hcu, hp, hN, hb⟩ := id hW
 have hF : aA (fun k => (aH (.slice A n cp) k ∨ k = bp) ∨ k = bs) w w := Fr.refl _ _ _
 refine Z.x ((Gs.ce x fA fn fc).toArray) (fun b1 w1 e1 ah _ U1 => ?_)
 have iq := ae.apart e1
 refine Z.n ((Gs.re Gs.pW).toArray) (fun b2 w2 e2 ax _ U2 => ?_)
 replace ay := U1.af ay
 have iV : bs ≠ b2 := by have := au ay; omega
 replace ag := U1.af ag
 have eU : bp ≠ b2 := by have := au ag; omega
 replace ae := ae.ai U1
 have dF := ae.apart e2
 replace hF := hF.go0 U1
 have eQ : w.heap.size ≤ b2 := by have := hF.size; omega
 refine Z.f 0 ?_
 replace ah := U2.af ah
 refine Z.l ah ?_
 refine az (cZ _ _ _ _ _) (fun h3 => ?_) (fun h3 => ?_)
 refine aJ ?_
 refine bM (fun g w' => (Z.h w' bs #[Z.i s.r0, Z.i s.c0, Z.i s.r1, Z.i s.c1, Z.i s.wh, Z.p bp] 89) ∧ (Z.h w' bp #[Z.i s.r, Z.i s.c, .slice A n cp, Z.i s.cur] 91) ∧ (Own B0 w' 37 5 (.slice A n cp) (rows Gs.cv (Gs.BD s x.w).cs)) ∧ (Gs.gU w' [⟨0, 0, x⟩]) ∧ (Z.h w' b1 ((Gs.ce x fA fn fc).toArray) 124) ∧ (Z.h w' b2 ((Gs.re Gs.pW).toArray) 66) ∧ (aA (fun k => (aH (.slice A n cp) k ∨ k = bp) ∨ k = bs) w w')) (fun J1 hJ1 => ?_) (fun gJ1 jT hI => ?_)
 refine Z.f 1 ?_
 refine Z.l ah ?_
 refine dQ (Va hwx.2.1) (fun w4 U4 h4 => ?_) (fun w4 U4 h4 => ?_)
 simp only [Z.d, Z.c] at h4
 refine aJ ?_
 refine dw ?_
 refine Z.f 5 ?_
 replace ay := U4.af (U2.af ay)
 refine Z.l ay ?_
 replace ae := (ae.ai U2).ai U4
 replace ag := U4.af (U2.af ag)
 refine aN (OA ag ae hn hN hb hcw) (fun v5 w5 D5 => ?_)
 obtain ⟨rfl, N5, U5⟩ := D5
 have aK := ae
 replace ay := U5.get ay (fun h => Own.aS aK ay (by decide) _ h rfl)
 replace ag := U5.get ag (fun h => Own.aS aK ag (by decide) _ h rfl)
 replace ae := N5
 replace gy := ((gy.ai U1).ai U2).ai U4
 replace gy := gy.dX U5 nax1
 replace ah := U4.af ah
 replace ah := U5.get ah (fun h => iq _ h rfl)
 replace ax := U4.af ax
 replace ax := U5.get ax (fun h => dF _ h rfl)
 replace hF := (hF.go0 U2).go0 U4
 replace hF := hF.go U5 (fun i h hs => .inl (.inl hs))
 clear aK
 refine hJ1 _ _ ?_
 exact ⟨ay, ag, (by unfold Gs.BD; dsimp only; (rw [if_pos (by assumption)]; exact ae)), gy, ah, ax, hF⟩
 simp only [Z.d, Z.c] at h4
 refine aC ?_
 refine hJ1 _ _ ?_
 replace gy := ((gy.ai U1).ai U2).ai U4
 replace ae := (ae.ai U2).ai U4
 replace ay := U4.af (U2.af ay)
 replace ag := U4.af (U2.af ag)
 replace hF := (hF.go0 U2).go0 U4
 replace ah := U4.af ah
 replace ax := U4.af ax
 exact ⟨ay, ag, (by unfold Gs.BD; dsimp only; (rw [if_neg (by assumption)]; exact ae)), gy, ah, ax, hF⟩
 replace gy := (gy.ai U1).ai U2
 replace ae := ae.ai U2
 replace ay := U2.af ay
 replace ag := U2.af ag
 replace hF := hF.go0 U2
 obtain ⟨ay, ag, ae, gy, ah, ax, hF⟩ := hI
 refine dS (S := no) (fun w6 U6 => ?_)
 replace ah := U6.af ah
 refine bJ (fun w' hw' => by have ah := hw'.af ah; exact (Bv (n := 5) (cs' := (Gs.ce x fA fn fc).toArray) (by kernel_rfl) ah (Nat.le_of_ble_eq_true rfl) (by rfl))) ?_
 refine fV ?_
 refine Z.g 5 ?_
 replace ay := U6.af ay
 refine Z.m ay ?_
 replace ae := ae.ai U6
 replace ag := U6.af ag
 refine fO (fun w' hw' => by have ag := hw'.af ag; have ae := ae.ai hw'; exact eF ag ae (hS.cln x.w).2.1) ?_
 refine aI (fun w8 U8 => ?_)
 replace gy := (gy.ai U6).ai U8
 replace ae := ae.ai U8
 replace ay := U8.af ay
 replace ag := U8.af ag
 refine aN (Ea (s := Gs.BD s x.w) ay ag ae (hS.cln x.w) gy hwx hlx nax1 nax2 nax3 (i := s.cur) hcu) (fun v9 w9 D9 => ?_)
 have aK := ae
 replace hF := (hF.go0 U6).go0 U8
 have qF9 := hF.size
 obtain ⟨rfl, ag, ae, U9⟩ := D9
 replace ay := U9.get ay (fun hs => by rcases hs with hs | hs <;> first | (first | exact Own.aS aK ay (by decide) _ hs rfl | (have := Own.ge aK hs; omega)) | (exact absurd hs (by exact dW (by assumption) (by assumption) (by decide))))
 replace ax := U8.af (U6.af ax)
 replace ax := U9.get ax (fun hs => by rcases hs with hs | hs <;> first | (first | exact Own.aS aK ax (by decide) _ hs rfl | (have := Own.ge aK hs; omega)) | (exact absurd hs (Ne.symm eU)))
 replace hF := hF.go U9 (fun i hi hs => .inl hs)
 clear aK
 refine aI (fun w10 aY => ?_)
 replace ax := aY.af ax
 refine Z.t 4 ((Gs.re (Gs.qy (Gs.BD s x.w) x.m s.cur).2).toArray) (by (simp [Value.cells, Value.oneCell', Gs.cv, Gs.fv, Gs.ie, Gs.pe, Gs.oe, Gs.cO, Gs.fe, Gs.fM, Gs.ce, Gs.dZ, Gs.re]; done)) ax (fun nR ax _ bK => ?_)
 refine aI (fun w12 di => ?_)
 replace ax := di.af ax
 refine Z.a 4 ax ?_
 replace ae := ((ae.ai aY).aF bK dF).ai di
 replace ay := di.af (bK.aj (aY.af ay) iV)
 replace ag := di.af (bK.aj (aY.af ag) eU)
 replace hF := ((hF.go0 aY).go1 bK eQ).go0 di
 rw [Gs.aeG (c := x.m) (by assumption)]; exact ⟨_, rfl, rfl, bp, A, n, cp, ay, ag, ae, ((hS.cln x.w).write (Gs.rX.of hwx.2.2) hcu).2.1, .inl rfl, (fun k hk => .inl hk), hF⟩
 refine aC ?_
 refine az (cZ _ _ _ _ _) (fun h14 => ?_) (fun h14 => ?_)
 refine aJ ?_
 refine Z.b 5 ((Gs.ce x fA fn fc).toArray) ah ?_
 replace gy := (gy.ai U1).ai U2
 replace ay := U2.af ay
 refine aN (Ub ay hS gy hwx hlx nax3) (fun v15 uG D15 => ?_)
 obtain ⟨rfl, bp2, g2, N15, gbp2, tZ, jK, bW⟩ := D15
 have zT : b2 ≠ bp2 := by have := au ax; omega
 replace hF := hF.go0 U2
 have CB : w.heap.size ≤ bp2 := by have := hF.size; omega
 replace jK := jK.mono (B' := w.heap.size) hF.size
 replace ay := N15
 replace hF := hF.go bW (fun i _ h => .inr h)
 replace ax := bW.aj ax (Ne.symm iV)
 refine Z.t 4 ((Gs.re (Gs.iO s x.m 0).2).toArray) (by (simp [Value.cells, Value.oneCell', Gs.cv, Gs.fv, Gs.ie, Gs.pe, Gs.oe, Gs.cO, Gs.fe, Gs.fM, Gs.ce, Gs.dZ, Gs.re]; done)) ax (fun w16 ax _ bQ => ?_)
 replace jK := jK.aF bQ (Own.aS jK (by assumption) (by decide))
 refine Z.a 4 ax ?_
 replace ay := bQ.aj ay iV
 replace tZ := bQ.aj tZ (Ne.symm zT)
 replace hF := hF.go1 bQ eQ
 rw [Gs.alc (c := x.m) (by assumption)]; exact ⟨_, rfl, rfl, bp2, some ⟨g2, 0, none⟩, _, _, ay, tZ, jK.mono hB0, rfl, .inr CB, (fun k hk => .inr (Own.ge jK hk).1), hF⟩
 refine aC ?_
 refine az (cZ _ _ _ _ _) (fun h18 => ?_) (fun h18 => ?_)
 refine aJ ?_
 refine Z.b 5 ((Gs.ce x fA fn fc).toArray) ah ?_
 replace gy := (gy.ai U1).ai U2
 replace ay := U2.af ay
 refine aN (Uc ay hS gy hwx hlx nax3) (fun v19 Ar D19 => ?_)
 obtain ⟨rfl, bp2, g2, N19, gbp2, tZ, jK, fC⟩ := D19
 have zT : b2 ≠ bp2 := by have := au ax; omega
 replace hF := hF.go0 U2
 have CB : w.heap.size ≤ bp2 := by have := hF.size; omega
 replace jK := jK.mono (B' := w.heap.size) hF.size
 replace ay := N19
 replace hF := hF.go fC (fun i _ h => .inr h)
 replace ax := fC.aj ax (Ne.symm iV)
 refine Z.t 4 ((Gs.re (Gs.iO s x.m 1).2).toArray) (by (simp [Value.cells, Value.oneCell', Gs.cv, Gs.fv, Gs.ie, Gs.pe, Gs.oe, Gs.cO, Gs.fe, Gs.fM, Gs.ce, Gs.dZ, Gs.re]; done)) ax (fun xu ax _ dR => ?_)
 replace jK := jK.aF dR (Own.aS jK (by assumption) (by decide))
 refine Z.a 4 ax ?_
 replace ay := dR.aj ay iV
 replace tZ := dR.aj tZ (Ne.symm zT)
 replace hF := hF.go1 dR eQ
 rw [Gs.ald (c := x.m) (by assumption)]; exact ⟨_, rfl, rfl, bp2, some ⟨g2, 0, none⟩, _, _, ay, tZ, jK.mono hB0, rfl, .inr CB, (fun k hk => .inr (Own.ge jK hk).1), hF⟩
 refine aC ?_
 refine az (cZ _ _ _ _ _) (fun h22 => ?_) (fun h22 => ?_)
 refine aJ ?_
 refine dw ?_
 refine Z.f 5 ?_
 replace ay := U2.af ay
 refine Z.l ay ?_
 replace ae := ae.ai U2
 replace ag := U2.af ag
 refine aN (TZ ag ae hW) (fun v23 Eu D23 => ?_)
 obtain ⟨q41, rfl, M23, N23, iZ⟩ := D23
 have aK := ae
 replace ae := N23
 replace ay := iZ.get ay (fun hs => Or.elim (show aH _ _ ∨ _ = _ from hs) (fun h => Own.aS aK ay (by decide) _ h rfl) (fun hb => absurd hb (by exact dW (by assumption) (by assumption) (by decide))))
 replace ax := iZ.get ax (fun hs => Or.elim (show aH _ _ ∨ _ = _ from hs) (fun h => dF _ h rfl) (fun hb => absurd hb (Ne.symm eU)))
 replace ag := M23
 replace hF := hF.go0 U2
 replace hF := hF.go iZ (fun i h hs => Or.elim (show aH _ _ ∨ _ = _ from hs) (fun hs => .inl (.inl hs)) (fun hb => by (subst hb; omega)))
 clear aK
 refine ak (bG (l := [(0, 1), (1, 1), (2, 1), (3, 1)]) (z := #[Z.u 0, .bool false, .bool false, Z.i 0]) (cs := Gs.re ⟨0, true, false, 0⟩) (by kernel_rfl) (by rfl)) ?_
 refine Z.t 4 ((Gs.re ⟨0, true, false, 0⟩).toArray) (by (simp [Value.cells, Value.oneCell', Gs.cv, Gs.fv, Gs.ie, Gs.pe, Gs.oe, Gs.cO, Gs.fe, Gs.fM, Gs.ce, Gs.dZ, Gs.re]; done)) ax (fun GV ax _ fZ => ?_)
 refine Z.a 4 ax ?_
 replace ae := ae.aF fZ dF
 replace ay := fZ.aj ay iV
 replace ag := fZ.aj ag eU
 replace hF := hF.go1 fZ eQ
 rw [Gs.ale (c := x.m) (by assumption)]; exact ⟨_, rfl, rfl, bp, A, n, cp, ay, ag, ae, hn.trans (Gs.PV _).symm, .inl rfl, (fun k hk => .inl hk), hF⟩
 refine aC ?_
 refine bM (fun g w' => (g 43 = .bool (decide (x.k = 242 ∨ x.k = 246 ∨ x.k = 110))) ∧ (Z.h w' bs #[Z.i s.r0, Z.i s.c0, Z.i s.r1, Z.i s.c1, Z.i s.wh, Z.p bp] 89) ∧ (Z.h w' bp #[Z.i s.r, Z.i s.c, .slice A n cp, Z.i s.cur] 91) ∧ (Own B0 w' 37 5 (.slice A n cp) (rows Gs.cv s.cs)) ∧ (Gs.gU w' [⟨0, 0, x⟩]) ∧ (Z.h w' b1 ((Gs.ce x fA fn fc).toArray) 124) ∧ (Z.h w' b2 ((Gs.re Gs.pW).toArray) 66) ∧ (aA (fun k => (aH (.slice A n cp) k ∨ k = bp) ∨ k = bs) w w')) (fun J2 hJ2 => ?_) (fun gJ2 RF hI => ?_)
 refine az (cZ _ _ _ _ _) (fun h27 => ?_) (fun h27 => ?_)
 refine aJ ?_
 refine hJ2 _ _ ?_
 replace gy := (gy.ai U1).ai U2
 replace ae := ae.ai U2
 replace ay := U2.af ay
 replace ag := U2.af ag
 replace hF := hF.go0 U2
 exact ⟨(by exact congrArg Value.bool (decide_eq_true (by omega)).symm), ay, ag, ae, gy, ah, ax, hF⟩
 refine aC ?_
 refine az (cZ _ _ _ _ _) (fun h28 => ?_) (fun h28 => ?_)
 refine aJ ?_
 refine hJ2 _ _ ?_
 replace gy := (gy.ai U1).ai U2
 replace ae := ae.ai U2
 replace ay := U2.af ay
 replace ag := U2.af ag
 replace hF := hF.go0 U2
 exact ⟨(by exact congrArg Value.bool (decide_eq_true (by omega)).symm), ay, ag, ae, gy, ah, ax, hF⟩
 refine aC ?_
 refine az (cZ _ _ _ _ _) (fun h29 => ?_) (fun h29 => ?_)
 refine hJ2 _ _ ?_
 replace gy := (gy.ai U1).ai U2
 replace ae := ae.ai U2
 replace ay := U2.af ay
 replace ag := U2.af ag
 replace hF := hF.go0 U2
 exact ⟨(by exact congrArg Value.bool (decide_eq_true (by omega)).symm), ay, ag, ae, gy, ah, ax, hF⟩
 refine hJ2 _ _ ?_
 replace gy := (gy.ai U1).ai U2
 replace ae := ae.ai U2
 replace ay := U2.af ay
 replace ag := U2.af ag
 replace hF := hF.go0 U2
 exact ⟨(by exact congrArg Value.bool (decide_eq_false (by omega)).symm), ay, ag, ae, gy, ah, ax, hF⟩
 replace gy := (gy.ai U1).ai U2
 replace ae := ae.ai U2
 replace ay := U2.af ay
 replace ag := U2.af ag
 replace hF := hF.go0 U2
 obtain ⟨g43, ay, ag, ae, gy, ah, ax, hF⟩ := hI
 rw [g43]
 refine jQ (fun h30 => ?_) (fun h30 => ?_)
 simp only [Z.d, Z.c] at h30
 refine Z.f 0 ?_
 refine Z.l ah ?_
 refine ak (bG (l := [(0, 1), (1, 1), (2, 1), (3, 1)]) (z := #[Z.u 0, .bool false, .bool false, Z.i 0]) (cs := Gs.re ⟨x.k, false, false, 0⟩) (by kernel_rfl) (by rfl)) ?_
 refine Z.t 4 ((Gs.re ⟨x.k, false, false, 0⟩).toArray) (by (simp [Value.cells, Value.oneCell', Gs.cv, Gs.fv, Gs.ie, Gs.pe, Gs.oe, Gs.cO, Gs.fe, Gs.fM, Gs.ce, Gs.dZ, Gs.re]; done)) ax (fun w32 ax _ lU => ?_)
 refine Z.a 4 ax ?_
 replace ae := ae.aF lU dF
 replace ay := lU.aj ay iV
 replace ag := lU.aj ag eU
 replace hF := hF.go1 lU eQ
 rw [Gs.alf (c := x.m) (by assumption)]; exact ⟨_, rfl, rfl, bp, A, n, cp, ay, ag, ae, hn, .inl rfl, (fun k hk => .inl hk), hF⟩
 simp only [Z.d, Z.c] at h30
 refine ny (cZ _ _ _ _ _) (hk243) ?_
 refine aC ?_
 refine ak (bG (l := [(0, 1), (1, 1), (2, 1), (3, 1)]) (z := #[Z.u 0, .bool false, .bool false, Z.i 0]) (cs := Gs.re (Gs.wL 30)) (by kernel_rfl) (by rfl)) ?_
 refine Z.t 4 ((Gs.re (Gs.wL 30)).toArray) (by (simp [Value.cells, Value.oneCell', Gs.cv, Gs.fv, Gs.ie, Gs.pe, Gs.oe, Gs.cO, Gs.fe, Gs.fM, Gs.ce, Gs.dZ, Gs.re]; done)) ax (fun w35 ax _ pJ => ?_)
 refine Z.a 4 ax ?_
 replace ae := ae.aF pJ dF
 replace ay := pJ.aj ay iV
 replace ag := pJ.aj ag eU
 replace hF := hF.go1 pJ eQ
 rw [Gs.alg (c := x.m) (by show ¬ (x.k = 241 ∨ x.k = 245 ∨ x.k = 126 ∨ x.k = 111 ∨ x.k = 242 ∨ x.k = 246 ∨ x.k = 110); omega)]; exact ⟨_, rfl, rfl, bp, A, n, cp, ay, ag, ae, hn, .inl rfl, (fun k hk => .inl hk), hF⟩
set_option maxHeartbeats 1000000 in
theorem VE {s : Gs.iL} {A : Option Addr} {n cp bp bs B0 : Nat} {w : World} (ay : Z.h w bs #[Z.i s.r0, Z.i s.c0, Z.i s.r1, Z.i s.c1, Z.i s.wh, Z.p bp] 89) (ag : Z.h w bp #[Z.i s.r, Z.i s.c, .slice A n cp, Z.i s.cur] 91) (ae : Own B0 w 37 5 (.slice A n cp) (rows Gs.cv s.cs)) (hS : Gs.Sw n s) (hB0 : B0 ≤ w.heap.size) {f : Gs.Fd} (gy : Gs.gU w [f]) (hwf : (0 ≤ f.id ∧ f.id ≤ 255) ∧ (0 ≤ f.op ∧ f.op ≤ 255) ∧ Gs.Ap f.c) (hlx : Gs.EL f.c.os ∧ f.c.os.length ≤ 100000) (hin : f.id = 1 ∨ f.id = 3 ∨ Gs.sF f.c.k) (nax1 : [(f : Gs.Fd)] = [] ∨ ∀ k, Gs.kP [f] k → ¬ aH (.slice A n cp) k) (nax2 : [(f : Gs.Fd)] = [] ∨ ∀ k, Gs.kP [f] k → k ≠ bp) (nax3 : [(f : Gs.Fd)] = [] ∨ ∀ k, Gs.kP [f] k → k ≠ bs)  :
    oX 153 #[Z.p bs, .agg (Gs.fe f).toArray] w (WR (Gs.fK s f.m).1 (Gs.fK s f.m).2 A n cp bp bs B0 w) := by
 refine YU.calls ?_
 unfold YU
 have hW := hS.2
 obtain ⟨hn, hcw, hcu, hp, hN, hb⟩ := id hW
 have hF : aA (fun k => (aH (.slice A n cp) k ∨ k = bp) ∨ k = bs) w w := Fr.refl _ _ _
 refine Z.x ((Gs.fe f).toArray) (fun b1 w1 e1 ah _ U1 => ?_)
 refine Z.n ((Gs.re Gs.pW).toArray) (fun b2 w2 e2 ax _ U2 => ?_)
 replace ay := U1.af ay
 have iV : bs ≠ b2 := by have := au ay; omega
 replace ag := U1.af ag
 have eU : bp ≠ b2 := by have := au ag; omega
 replace ae := ae.ai U1
 have dF := ae.apart e2
 replace hF := hF.go0 U1
 have eQ : w.heap.size ≤ b2 := by have := hF.size; omega
 refine Z.f 0 ?_
 replace ah := U2.af ah
 refine Z.l ah ?_
 refine az (cZ _ _ _ _ _) (fun h3 => ?_) (fun h3 => ?_)
 refine aJ ?_
 refine Z.f 1 ?_
 refine Z.l ah ?_
 refine ak (bG (l := [(0, 1), (1, 1), (2, 1), (3, 1)]) (z := #[Z.u 0, .bool false, .bool false, Z.i 0]) (cs := Gs.re ⟨f.op, false, false, 0⟩) (by kernel_rfl) (by rfl)) ?_
 refine Z.t 4 ((Gs.re ⟨f.op, false, false, 0⟩).toArray) (by (simp [Value.cells, Value.oneCell', Gs.cv, Gs.fv, Gs.ie, Gs.pe, Gs.oe, Gs.cO, Gs.fe, Gs.fM, Gs.ce, Gs.dZ, Gs.re]; done)) ax (fun w5 ax _ U5 => ?_)
 refine Z.a 4 ax ?_
 replace ae := (ae.ai U2).aF U5 dF
 replace ay := U5.aj (U2.af ay) iV
 replace ag := U5.aj (U2.af ag) eU
 replace hF := (hF.go0 U2).go1 U5 eQ
 rw [Gs.ag8 (f := f.m) (by assumption)]; exact ⟨_, rfl, rfl, bp, A, n, cp, ay, ag, ae, hn, .inl rfl, (fun k hk => .inl hk), hF⟩
 refine aC ?_
 refine az (cZ _ _ _ _ _) (fun h7 => ?_) (fun h7 => ?_)
 refine aJ ?_
 refine Z.f 1 ?_
 refine Z.l ah ?_
 refine aB (ZO hwf.2.1) (fun w8 U8 => ?_)
 replace ay := U8.af (U2.af ay)
 refine aN (Ua ay hS.1.1 hS.1.2 (j := if f.op = 0 then 0 else 1) (by split <;> simp)) (fun v9 w9 D9 => ?_)
 obtain ⟨bp2, g2, N9, gbp2, tZ, jK, U9⟩ := D9
 replace ax := U8.af ax
 have zT : b2 ≠ bp2 := by have := au ax; omega
 replace hF := (hF.go0 U2).go0 U8
 have CB : w.heap.size ≤ bp2 := by have := hF.size; omega
 replace jK := jK.mono (B' := w.heap.size) hF.size
 replace ay := N9
 replace hF := hF.go U9 (fun i _ h => .inr h)
 refine ak (bG (l := [(0, 1), (1, 1), (2, 1), (3, 1)]) (z := #[Z.u 0, .bool false, .bool false, Z.i 0]) (cs := Gs.re Gs.pW) (by kernel_rfl) (by rfl)) ?_
 replace ax := U9.aj ax (Ne.symm iV)
 refine Z.t 4 ((Gs.re Gs.pW).toArray) (by (simp [Value.cells, Value.oneCell', Gs.cv, Gs.fv, Gs.ie, Gs.pe, Gs.oe, Gs.cO, Gs.fe, Gs.fM, Gs.ce, Gs.dZ, Gs.re]; done)) ax (fun nR ax _ bK => ?_)
 replace jK := jK.aF bK (Own.aS jK (by assumption) (by decide))
 refine Z.a 4 ax ?_
 replace ay := bK.aj ay iV
 replace tZ := bK.aj tZ (Ne.symm zT)
 replace hF := hF.go1 bK eQ
 rw [Gs.ag9 (f := f.m) (by assumption)]; exact ⟨_, rfl, rfl, bp2, some ⟨g2, 0, none⟩, _, _, ay, tZ, jK.mono hB0, rfl, .inr CB, (fun k hk => .inr (Own.ge jK hk).1), hF⟩
 refine aC ?_
 refine Z.f 2 ?_
 refine Z.b 5 ((Gs.ce f.c none 0 0).toArray) ah ?_
 replace gy := (gy.ai U1).ai U2
 replace ae := ae.ai U2
 replace ay := U2.af ay
 replace ag := U2.af ag
 replace hF := hF.go0 U2
 refine aN (PU ay ag ae hS (by have := hF.size; omega) (Gs.gU.VZ gy rfl) hwf.2.2 hlx (Gs.ZP (x := f) rfl nax1) (Gs.ZP (x := f) rfl nax2) (Gs.ZP (x := f) rfl nax3) (fun h => hin.elim (by assumption) (fun h2 => h2.elim (by assumption) (fun h3 => by unfold Gs.sF Gs.oK at h3; omega)))) (fun v13 vY D13 => ?_)
 have aK := ae
 have qF13 := hF.size
 have qF24 := hF.size
 obtain ⟨rfl, bp24, A24, n24, cp24, ay, EM, zi, hn24, hb24, ho24, dI⟩ := D13
 replace ax := dI.get ax (fun hs => by rcases hs with (hs | hs) | hs <;> first | (first | exact Own.aS aK ax (by decide) _ hs rfl | (have := Own.ge aK hs; omega)) | (exact absurd hs (Ne.symm eU)) | (exact absurd hs (Ne.symm iV)))
 replace hF := hF.go dI (fun i hi hs => by exact hs)
 clear aK
 refine Z.n ((Gs.re Gs.pW).toArray) (fun b14 sO e14 dJ _ dC => ?_)
 have vw : b2 ≠ b14 := by have := au ax; omega
 have zU : bs ≠ b14 := by have := au ay; omega
 have JR : bp24 ≠ b14 := by have := au EM; omega
 have EN := zi.apart e14
 have pF : w.heap.size ≤ b14 := by have := hF.size; omega
 refine Z.t 4 ((Gs.re (Gs.oM s f.c.m).2).toArray) (by (simp [Value.cells, Value.oneCell', Gs.cv, Gs.fv, Gs.ie, Gs.pe, Gs.oe, Gs.cO, Gs.fe, Gs.fM, Gs.ce, Gs.dZ, Gs.re]; done)) dJ (fun uG dJ _ bW => ?_)
 refine Z.f 0 ?_
 refine Z.s dJ (fun w16 dJ _ bQ => ?_)
 refine Z.b 4 _ dJ ?_
 replace ax := bQ.aj (bW.aj (dC.af ax) vw) vw
 refine gK (n := 4) (by kernel_rfl) (by rfl) (by (simp [Value.cells, Value.oneCell', Gs.cv, Gs.fv, Gs.ie, Gs.pe, Gs.oe, Gs.cO, Gs.fe, Gs.fM, Gs.ce, Gs.dZ, Gs.re]; done)) ax (Nat.le_of_ble_eq_true rfl) (by (simp; rfl)) (fun uS ax _ df => ?_)
 replace zi := ((zi.ai dC).aF bW EN).aF bQ EN
 replace zi := zi.aF df (Own.aS zi (by assumption) (by decide))
 replace EM := bQ.aj (bW.aj (dC.af EM) JR) JR
 replace EM := df.aj EM (by exact dW (by assumption) (by assumption) (by decide))
 refine Z.a 4 ax ?_
 replace ay := df.aj (bQ.aj (bW.aj (dC.af ay) zU) zU) iV
 replace hF := (((hF.go0 dC).go1 bW pF).go1 bQ pF).go1 df eQ
 rw [Gs.aha (f := f.m) (by assumption) (by assumption)]; exact ⟨_, rfl, rfl, bp24, A24, n24, cp24, ay, EM, zi, hn24, hb24.imp id (fun h => by omega), (fun k hk => (ho24 k hk).imp id (fun h => by omega)), hF⟩
set_option maxHeartbeats 2000000 in
theorem Ud {s : Gs.iL} {A : Option Addr} {n cp bp bs B0 : Nat} {w : World} (ay : Z.h w bs #[Z.i s.r0, Z.i s.c0, Z.i s.r1, Z.i s.c1, Z.i s.wh, Z.p bp] 89) (ag : Z.h w bp #[Z.i s.r, Z.i s.c, .slice A n cp, Z.i s.cur] 91) (ae : Own B0 w 37 5 (.slice A n cp) (rows Gs.cv s.cs)) (hS : Gs.Sw n s) (hB0 : B0 ≤ w.heap.size) {x : Gs.pq} {fs : List Gs.Fd} {fA : Option Addr} {fc : Nat} (jZ : Rd w fA (rows Gs.fe fs)) (iE : Gs.gU w fs) (hfw : Gs.Bz fs) (hfl : Gs.WS fs) (hfn : fs.length ≤ 100000) (nf1 : rows Gs.fe fs = [] ∨ ∀ k, eY fA k → ¬ aH (.slice A n cp) k) (nf2 : rows Gs.fe fs = [] ∨ ∀ k, eY fA k → k ≠ bp) (nf3 : rows Gs.fe fs = [] ∨ ∀ k, eY fA k → k ≠ bs) (ng1 : fs = [] ∨ ∀ k, Gs.kP fs k → ¬ aH (.slice A n cp) k) (ng2 : fs = [] ∨ ∀ k, Gs.kP fs k → k ≠ bp) (ng3 : fs = [] ∨ ∀ k, Gs.kP fs k → k ≠ bs)  :
    oX 110 #[Z.p bs, .agg (Gs.ce x fA fs.length fc).toArray] w (WR (Gs.kU x.e (Gs.qL fs) s Gs.pW).1 (Gs.kU x.e (Gs.qL fs) s Gs.pW).2 A n cp bp bs B0 w) := by
 refine YR.calls ?_
 unfold YR
 have hW := hS.2
 obtain ⟨hn, hcw, hcu, hp, hN, hb⟩ := id hW
 have hfml := Gs.V5 fs
 have hF : aA (fun k => (aH (.slice A n cp) k ∨ k = bp) ∨ k = bs) w w := Fr.refl _ _ _
 refine Z.x ((Gs.ce x fA fs.length fc).toArray) (fun b1 w1 e1 ah _ U1 => ?_)
 refine Z.n ((Gs.re Gs.pW).toArray) (fun b2 w2 e2 ax _ U2 => ?_)
 replace ay := U1.af ay
 have iV : bs ≠ b2 := by have := au ay; omega
 replace hF := hF.go0 U1
 have eQ : w.heap.size ≤ b2 := by have := hF.size; omega
 refine Z.n ((Gs.re Gs.pW).toArray) (fun b3 w3 e3 bC _ U3 => ?_)
 replace ay := U2.af ay
 have pR : bs ≠ b3 := by have := au ay; omega
 replace jZ := (jZ.ai U1).ai U2
 have ry := jZ.apart e3
 replace iE := (iE.ai U1).ai U2
 have rC := iE.apart e3
 replace ah := U2.af ah
 have lL : b1 ≠ b3 := by have := au ah; omega
 have pU : b2 ≠ b3 := by have := au ax; omega
 replace hF := hF.go0 U2
 have jF : w.heap.size ≤ b3 := by have := hF.size; omega
 refine bM (fun g w' => ∃ (s1 : Gs.iL) (o1 : Gs.vJ) (bp1 : Nat) (A1 : Option Addr) (n1 : Nat) (cp1 : Nat), ((Gs.kU x.e (Gs.qL fs) s Gs.pW) = (s1, if x.e = 0 then o1 else Gs.wL x.e)) ∧ (Gs.Sw n1 s1) ∧ (bp1 = bp ∨ w.heap.size ≤ bp1) ∧ (∀ k, aH (.slice A1 n1 cp1) k → aH (.slice A n cp) k ∨ w.heap.size ≤ k) ∧ (Z.h w' bs #[Z.i s1.r0, Z.i s1.c0, Z.i s1.r1, Z.i s1.c1, Z.i s1.wh, Z.p bp1] 89) ∧ (Z.h w' bp1 #[Z.i s1.r, Z.i s1.c, .slice A1 n1 cp1, Z.i s1.cur] 91) ∧ (Own B0 w' 37 5 (.slice A1 n1 cp1) (rows Gs.cv s1.cs)) ∧ (Z.h w' b3 ((Gs.re o1).toArray) 66) ∧ (Z.h w' b2 ((Gs.re Gs.pW).toArray) 66) ∧ (Z.h w' b1 ((Gs.ce x fA fs.length fc).toArray) 124) ∧ (aA (fun k => (aH (.slice A n cp) k ∨ k = bp) ∨ k = bs) w w')) (fun J1 hJ1 => ?_) (fun gJ1 jT hI => ?_)
 refine Z.f 4 ?_
 replace ah := U3.af ah
 refine Z.l ah ?_
 refine ak (gZ (by kernel_rfl) _ _ _) ?_
 refine ed (fun g w' => ∃ (k : Nat) (s1 : Gs.iL) (o1 : Gs.vJ) (bp1 : Nat) (A1 : Option Addr) (n1 : Nat) (cp1 : Nat), (g 12 = Z.i (k : Int)) ∧ (k ≤ fs.length) ∧ ((Gs.kU x.e (Gs.qL fs) s Gs.pW) = Gs.kU x.e ((Gs.qL fs).drop k) s1 o1) ∧ (Gs.Sw n1 s1) ∧ (bp1 = bp ∨ w.heap.size ≤ bp1) ∧ (∀ k, aH (.slice A1 n1 cp1) k → aH (.slice A n cp) k ∨ w.heap.size ≤ k) ∧ (rows Gs.fe fs = [] ∨ ∀ k, eY fA k → ¬ aH (.slice A1 n1 cp1) k) ∧ (rows Gs.fe fs = [] ∨ ∀ k, eY fA k → k ≠ bp1) ∧ (fs = [] ∨ ∀ k, Gs.kP fs k → ¬ aH (.slice A1 n1 cp1) k) ∧ (fs = [] ∨ ∀ k, Gs.kP fs k → k ≠ bp1) ∧ (Z.h w' bs #[Z.i s1.r0, Z.i s1.c0, Z.i s1.r1, Z.i s1.c1, Z.i s1.wh, Z.p bp1] 89) ∧ (Z.h w' bp1 #[Z.i s1.r, Z.i s1.c, .slice A1 n1 cp1, Z.i s1.cur] 91) ∧ (Own B0 w' 37 5 (.slice A1 n1 cp1) (rows Gs.cv s1.cs)) ∧ (Z.h w' b3 ((Gs.re o1).toArray) 66) ∧ (Z.h w' b2 ((Gs.re Gs.pW).toArray) 66) ∧ (Z.h w' b1 ((Gs.ce x fA fs.length fc).toArray) 124) ∧ (Rd w' fA (rows Gs.fe fs)) ∧ (Gs.gU w' fs) ∧ (aA (fun k => (aH (.slice A n cp) k ∨ k = bp) ∨ k = bs) w w')) (fun g w' => fs.length - (RowKit.intOf (g 12)).toNat) ?_ (fun g2 qK hI => ?_)
 replace ae := ((ae.ai U1).ai U2).ai U3
 replace ag := U3.af (U2.af (U1.af ag))
 replace jZ := jZ.ai U3
 replace iE := iE.ai U3
 replace ay := U3.af ay
 replace ax := U3.af ax
 replace hF := hF.go0 U3
 exact ⟨0, s, Gs.pW, bp, A, n, cp, (by rfl), Nat.zero_le _, rfl, hS, (.inl rfl), (fun k hk => .inl hk), nf1, nf2, ng1, ng2, ay, ag, ae, bC, ax, ah, jZ, iE, hF⟩
 replace jZ := jZ.ai U3
 replace iE := iE.ai U3
 replace ay := U3.af ay
 replace ax := U3.af ax
 replace hF := hF.go0 U3
 obtain ⟨k, s1, o1, bp1, A1, n1, cp1, g12, hk, hinv, hS1, hbp, hov, nf1, nf2, ng1, ng2, ay, nN, jd, bC, ax, ah, jZ, iE, hF⟩ := hI
 rw [g12]
 refine az (lss _ _ _ _) (fun h4 => ?_) (fun h4 => ?_)
 refine aJ ?_
 refine sW Gs.AA (by kernel_rfl) (by kernel_rfl) jZ (by rfl) (by omega) (by omega) (fun x5 hx5 => ?_)
 simp only [Int.toNat_natCast] at hx5
 refine Z.n ((Gs.fe Gs.uh).toArray) (fun b6 w6 e6 nU _ U6 => ?_)
 have adF : bs ≠ b6 := by have := au ay; omega
 have abN : bp1 ≠ b6 := by have := au nN; omega
 have Ue := jd.apart e6
 have KR : b3 ≠ b6 := by have := au bC; omega
 have BX : b2 ≠ b6 := by have := au ax; omega
 have FQ : b1 ≠ b6 := by have := au ah; omega
 have abO := jZ.apart e6
 have Ig := iE.apart e6
 have wP : w.heap.size ≤ b6 := by have := hF.size; omega
 refine Z.t 7 ((Gs.fe x5).toArray) (by (simp [Value.cells, Value.oneCell', Gs.cv, Gs.fv, Gs.ie, Gs.pe, Gs.oe, Gs.cO, Gs.fe, Gs.fM, Gs.ce, Gs.dZ, Gs.re]; done)) nU (fun w7 nU _ U7 => ?_)
 refine Z.b 7 ((Gs.fe x5).toArray) nU ?_
 replace jd := (jd.ai U6).aF U7 Ue
 replace iE := (iE.ai U6).aF U7 Ig
 replace ay := U7.aj (U6.af ay) adF
 replace nN := U7.aj (U6.af nN) abN
 replace hF := (hF.go0 U6).go1 U7 wP
 refine aN (VE ay nN jd hS1 (by have := hF.size; omega) (iE.get hx5) (hfw.get hx5) (hfl.get hx5).1 (hfl.get hx5).2 (Gs.Uf ng1 hx5) (Gs.Uf ng2 hx5) (Gs.Uf ng3 hx5)) (fun v8 w8 D8 => ?_)
 have qF := jd
 have qF8 := hF.size
 have ano := hF.size
 obtain ⟨rfl, bp18, A18, n18, cp18, ay, dP, dh, hn18, hb18, ho18, U8⟩ := D8
 replace jZ := (jZ.ai U6).aF U7 abO
 have nf1b := afQ (S' := w7) nf1 jZ ho18
 have nf2b := Gs.ajl nf2 jZ.lt hb18
 have ng1b := Gs.Rx (S' := w7) ng1 iE ho18
 have ng2b := Gs.alh ng2 iE hb18
 have hbp2 : bp18 = bp ∨ w.heap.size ≤ bp18 := hb18.elim (fun h => hbp.elim (fun h2 => .inl (h.trans h2)) (fun h2 => .inr (by omega))) (fun h => .inr (by omega))
 have hov2 : ∀ k, aH (.slice A18 n18 cp18) k → aH (.slice A n cp) k ∨ w.heap.size ≤ k := fun k hk => (ho18 k hk).elim (hov k) (fun h => .inr (by omega))
 have hS2 : Gs.Sw n18 (Gs.fK s1 x5.m).1 := hn18 ▸ hS1.field (Gs.rX.of (hfw.get hx5).2.2.2.2)
 replace bC := U7.aj (U6.af bC) KR
 replace bC := U8.get bC (fun hs => by rcases hs with (hs | hs) | hs <;> first | (first | exact Own.aS qF bC (by decide) _ hs rfl | (have := Own.ge qF hs; omega)) | (exact absurd hs (by first | omega | exact dW (by assumption) (by assumption) (by decide))))
 replace ax := U7.aj (U6.af ax) BX
 replace ax := U8.get ax (fun hs => by rcases hs with (hs | hs) | hs <;> first | (first | exact Own.aS qF ax (by decide) _ hs rfl | (have := Own.ge qF hs; omega)) | (exact absurd hs (by first | omega | exact dW (by assumption) (by assumption) (by decide))))
 replace ah := U7.aj (U6.af ah) FQ
 replace ah := U8.get ah (fun hs => by rcases hs with (hs | hs) | hs <;> first | (first | exact Own.aS qF ah (by decide) _ hs rfl | (have := Own.ge qF hs; omega)) | (exact absurd hs (by first | omega | exact dW (by assumption) (by assumption) (by decide))))
 replace jZ := jZ.dX U8 (nf1.elim .inl fun h0 => nf2.elim .inl fun h1 => nf3.elim .inl fun h2 => .inr fun k hk hs => by rcases hs with (hs | hs) | hs <;> first | exact h0 k hk hs | exact h1 k hk hs | exact h2 k hk hs)
 replace iE := iE.dX U8 (ng1.elim .inl fun h0 => ng2.elim .inl fun h1 => ng3.elim .inl fun h2 => .inr fun k hk hs => by rcases hs with (hs | hs) | hs <;> first | exact h0 k hk hs | exact h1 k hk hs | exact h2 k hk hs)
 replace hF := hF.go U8 (fun i hi hs => Or.elim hs (fun hs => Or.elim hs (fun hs => Or.elim (hov i hs) (fun h => .inl (.inl h)) (fun h => absurd hi (by omega))) (fun hs => Or.elim hbp (fun h => .inl (.inr (Eq.trans hs h))) (fun h => absurd hi (by have e : i = bp1 := hs; omega)))) (fun hs => .inr hs))
 clear qF
 refine Z.n ((Gs.re Gs.pW).toArray) (fun b9 w9 e9 je _ U9 => ?_)
 have CE : b3 ≠ b9 := by have := au bC; omega
 have BH : b2 ≠ b9 := by have := au ax; omega
 have KU : b1 ≠ b9 := by have := au ah; omega
 have IU := jZ.apart e9
 have zG := iE.apart e9
 have Gj : bs ≠ b9 := by have := au ay; omega
 have AZ : bp18 ≠ b9 := by have := au dP; omega
 have wW := dh.apart e9
 have pX : w.heap.size ≤ b9 := by have := hF.size; omega
 refine Z.t 4 ((Gs.re (Gs.fK s1 x5.m).2).toArray) (by (simp [Value.cells, Value.oneCell', Gs.cv, Gs.fv, Gs.ie, Gs.pe, Gs.oe, Gs.cO, Gs.fe, Gs.fM, Gs.ce, Gs.dZ, Gs.re]; done)) je (fun w10 je _ aY => ?_)
 refine Z.f 3 ?_
 refine Z.l je ?_
 refine az (kR _ _ _ _ _) (fun h11 => ?_) (fun h11 => ?_)
 refine aJ ?_
 refine Z.f 3 ?_
 refine Z.l je ?_
 refine ak (bG (l := [(0, 1), (1, 1), (2, 1), (3, 1)]) (z := #[Z.u 0, .bool false, .bool false, Z.i 0]) (cs := Gs.re (Gs.wL (Gs.fK s1 x5.m).2.er)) (by kernel_rfl) (by rfl)) ?_
 replace ax := aY.aj (U9.af ax) BH
 refine Z.t 4 ((Gs.re (Gs.wL (Gs.fK s1 x5.m).2.er)).toArray) (by (simp [Value.cells, Value.oneCell', Gs.cv, Gs.fv, Gs.ie, Gs.pe, Gs.oe, Gs.cO, Gs.fe, Gs.fM, Gs.ce, Gs.dZ, Gs.re]; done)) ax (fun vY ax _ dI => ?_)
 replace dh := (dh.ai U9).aF aY wW
 replace dh := dh.aF dI (Own.aS dh (by assumption) (by decide))
 replace dP := aY.aj (U9.af dP) AZ
 replace dP := dI.aj dP (by exact dW (by assumption) (by assumption) (by decide))
 refine Z.a 4 ax ?_
 replace ay := dI.aj (aY.aj (U9.af ay) Gj) iV
 replace hF := ((hF.go0 U9).go1 aY pX).go1 dI eQ
 rw [Gs.VF hinv (Gs.EO hx5) (by assumption)]; exact ⟨_, rfl, rfl, bp18, A18, n18, cp18, ay, dP, dh, hS2.2.1, hbp2, hov2, hF⟩
 refine aC ?_
 refine bM (fun g w' => ((Gs.fK s1 x5.m).2.er = 0) ∧ (Z.h w' bs #[Z.i (Gs.fK s1 x5.m).1.r0, Z.i (Gs.fK s1 x5.m).1.c0, Z.i (Gs.fK s1 x5.m).1.r1, Z.i (Gs.fK s1 x5.m).1.c1, Z.i (Gs.fK s1 x5.m).1.wh, Z.p bp18] 89) ∧ (Z.h w' bp18 #[Z.i (Gs.fK s1 x5.m).1.r, Z.i (Gs.fK s1 x5.m).1.c, .slice A18 n18 cp18, Z.i (Gs.fK s1 x5.m).1.cur] 91) ∧ (Own B0 w' 37 5 (.slice A18 n18 cp18) (rows Gs.cv (Gs.fK s1 x5.m).1.cs)) ∧ (Z.h w' b3 ((Gs.re ⟨if o1.rep = 0 then (Gs.fK s1 x5.m).2.rep else o1.rep, o1.rs, o1.al, o1.er⟩).toArray) 66) ∧ (Z.h w' b9 ((Gs.re (Gs.fK s1 x5.m).2).toArray) 66) ∧ (Z.h w' b2 ((Gs.re Gs.pW).toArray) 66) ∧ (Z.h w' b1 ((Gs.ce x fA fs.length fc).toArray) 124) ∧ (Rd w' fA (rows Gs.fe fs)) ∧ (Gs.gU w' fs) ∧ (aA (fun k => (aH (.slice A n cp) k ∨ k = bp) ∨ k = bs) w w')) (fun J3 hJ3 => ?_) (fun gJ3 JO hI => ?_)
 refine Z.f 0 ?_
 replace bC := aY.aj (U9.af bC) CE
 refine Z.l bC ?_
 refine az (cZ _ _ _ _ _) (fun h15 => ?_) (fun h15 => ?_)
 refine aJ ?_
 refine Z.f 0 ?_
 refine Z.l je ?_
 refine Z.f 0 ?_
 refine Z.s bC (fun w16 bC _ bQ => ?_)
 replace dh := (dh.ai U9).aF aY wW
 replace dh := dh.aF bQ (Own.aS dh (by assumption) (by decide))
 replace dP := aY.aj (U9.af dP) AZ
 replace dP := bQ.aj dP (by exact dW (by assumption) (by assumption) (by decide))
 refine hJ3 _ _ ?_
 replace jZ := ((jZ.ai U9).aF aY IU).aF bQ ry
 replace iE := ((iE.ai U9).aF aY zG).aF bQ rC
 replace ax := bQ.aj (aY.aj (U9.af ax) BH) pU
 replace ah := bQ.aj (aY.aj (U9.af ah) KU) lL
 replace ay := bQ.aj (aY.aj (U9.af ay) Gj) pR
 replace hF := ((hF.go0 U9).go1 aY pX).go1 bQ jF
 replace je := bQ.aj je (Ne.symm CE)
 exact ⟨(Classical.not_not.1 (by assumption)), ay, dP, dh, (by (rw [if_pos (by assumption)]; exact bC)), je, ax, ah, jZ, iE, hF⟩
 refine aC ?_
 refine hJ3 _ _ ?_
 replace jZ := (jZ.ai U9).aF aY IU
 replace iE := (iE.ai U9).aF aY zG
 replace dh := (dh.ai U9).aF aY wW
 replace ax := aY.aj (U9.af ax) BH
 replace ah := aY.aj (U9.af ah) KU
 replace ay := aY.aj (U9.af ay) Gj
 replace dP := aY.aj (U9.af dP) AZ
 replace hF := (hF.go0 U9).go1 aY pX
 exact ⟨(Classical.not_not.1 (by assumption)), ay, dP, dh, (by (rw [if_neg (by assumption)]; exact bC)), je, ax, ah, jZ, iE, hF⟩
 replace jZ := (jZ.ai U9).aF aY IU
 replace iE := (iE.ai U9).aF aY zG
 replace dh := (dh.ai U9).aF aY wW
 replace bC := aY.aj (U9.af bC) CE
 replace ax := aY.aj (U9.af ax) BH
 replace ah := aY.aj (U9.af ah) KU
 replace ay := aY.aj (U9.af ay) Gj
 replace dP := aY.aj (U9.af dP) AZ
 replace hF := (hF.go0 U9).go1 aY pX
 obtain ⟨he18, ay, dP, dh, bC, je, ax, ah, jZ, iE, hF⟩ := hI
 refine dS (S := (· = b3)) (fun uS df => ?_)
 refine Z.g 1 ?_
 replace bC := df.af bC
 refine ZQ (fun w' hw' => by have bC := (Fr.jg hw').af bC; exact (kZ (by kernel_rfl) bC (by rfl))) (fun h18 => ?_) (fun h18 => ?_)
 refine jc (jc (lM ?_))
 refine Z.g 2 ?_
 refine ZQ (fun w' hw' => by have bC := (Fr.jg hw').af bC; exact (kZ (by kernel_rfl) bC (by rfl))) (fun h19 => ?_) (fun h19 => ?_)
 refine jc (jc (lM ?_))
 refine Z.g 1 ?_
 refine aI (fun xu dR => ?_)
 refine jm ?_
 replace bC := dR.af bC
 refine Z.s bC (fun Dc bC _ dV => ?_)
 replace dh := (dh.ai df).ai dR
 replace dh := dh.aF dV (Own.aS dh (by assumption) (by decide))
 replace dP := dR.af (df.af dP)
 replace dP := dV.aj dP (by exact dW (by assumption) (by assumption) (by decide))
 refine ⟨dV, ?_⟩
 refine Z.g 2 ?_
 refine aI (fun Ht gQ => ?_)
 replace bC := gQ.af bC
 refine Z.s bC (fun Eu bC _ iZ => ?_)
 replace dh := dh.ai gQ
 replace dh := dh.aF iZ (Own.aS dh (by assumption) (by decide))
 replace dP := gQ.af dP
 replace dP := iZ.aj dP (by exact dW (by assumption) (by assumption) (by decide))
 refine aI (fun Pm jA => ?_)
 refine ak (dK _ (by omega)) ?_
 replace jZ := (((((jZ.ai df).ai dR).aF dV ry).ai gQ).aF iZ ry).ai jA
 replace iE := (((((iE.ai df).ai dR).aF dV rC).ai gQ).aF iZ rC).ai jA
 replace ay := jA.af (iZ.aj (gQ.af (dV.aj (dR.af (df.af ay)) pR)) pR)
 replace ax := jA.af (iZ.aj (gQ.af (dV.aj (dR.af (df.af ax)) pU)) pU)
 replace ah := jA.af (iZ.aj (gQ.af (dV.aj (dR.af (df.af ah)) lL)) lL)
 replace hF := (((((hF.go0 df).go0 dR).go1 dV jF).go0 gQ).go1 iZ jF).go0 jA
 replace dh := dh.ai jA
 replace dP := jA.af dP
 replace bC := jA.af bC
 exact ⟨⟨k + 1, (Gs.fK s1 x5.m).1, (Gs.mrg o1 (Gs.fK s1 x5.m).2), bp18, A18, n18, cp18, (by rfl), by omega, (Gs.yA hinv (Gs.EO hx5) he18), hS2, hbp2, hov2, nf1b, nf2b, ng1b, ng2b, ay, dP, dh, (by (rw [Gs.ajm (by assumption) (by assumption)]; exact bC)), ax, ah, jZ, iE, hF⟩, cnt_lt (by rfl) rfl (by omega)⟩
 refine eG ?_
 refine Z.g 2 ?_
 refine eG ?_
 replace je := df.af je
 refine bJ (fun w' hw' => by have je := hw'.aj je (Ne.symm CE); exact (kZ (by kernel_rfl) je (by rfl))) ?_
 refine jq ?_
 refine Z.g 1 ?_
 refine aI (fun GV fZ => ?_)
 refine jm ?_
 replace bC := fZ.af bC
 refine Z.s bC (fun LH bC _ iW => ?_)
 replace dh := (dh.ai df).ai fZ
 replace dh := dh.aF iW (Own.aS dh (by assumption) (by decide))
 replace dP := fZ.af (df.af dP)
 replace dP := iW.aj dP (by exact dW (by assumption) (by assumption) (by decide))
 refine ⟨iW, ?_⟩
 refine Z.g 2 ?_
 refine aI (fun Ij gm => ?_)
 replace bC := gm.af bC
 refine Z.s bC (fun V6 bC _ jG => ?_)
 replace dh := dh.ai gm
 replace dh := dh.aF jG (Own.aS dh (by assumption) (by decide))
 replace dP := gm.af dP
 replace dP := jG.aj dP (by exact dW (by assumption) (by assumption) (by decide))
 refine aI (fun V4 kz => ?_)
 refine ak (dK _ (by omega)) ?_
 replace jZ := (((((jZ.ai df).ai fZ).aF iW ry).ai gm).aF jG ry).ai kz
 replace iE := (((((iE.ai df).ai fZ).aF iW rC).ai gm).aF jG rC).ai kz
 replace ay := kz.af (jG.aj (gm.af (iW.aj (fZ.af (df.af ay)) pR)) pR)
 replace ax := kz.af (jG.aj (gm.af (iW.aj (fZ.af (df.af ax)) pU)) pU)
 replace ah := kz.af (jG.aj (gm.af (iW.aj (fZ.af (df.af ah)) lL)) lL)
 replace hF := (((((hF.go0 df).go0 fZ).go1 iW jF).go0 gm).go1 jG jF).go0 kz
 replace dh := dh.ai kz
 replace dP := kz.af dP
 replace bC := kz.af bC
 exact ⟨⟨k + 1, (Gs.fK s1 x5.m).1, (Gs.mrg o1 (Gs.fK s1 x5.m).2), bp18, A18, n18, cp18, (by rfl), by omega, (Gs.yA hinv (Gs.EO hx5) he18), hS2, hbp2, hov2, nf1b, nf2b, ng1b, ng2b, ay, dP, dh, (by (rw [Gs.ajn (by assumption) (by assumption)]; exact bC)), ax, ah, jZ, iE, hF⟩, cnt_lt (by rfl) rfl (by omega)⟩
 refine eG ?_
 refine Z.g 1 ?_
 refine eG ?_
 replace je := df.af je
 refine bJ (fun w' hw' => by have je := (Fr.jg hw').af je; exact (kZ (by kernel_rfl) je (by rfl))) ?_
 refine jq ?_
 refine Z.g 2 ?_
 refine ZQ (fun w' hw' => by have bC := (Fr.jg hw').af bC; exact (kZ (by kernel_rfl) bC (by rfl))) (fun h30 => ?_) (fun h30 => ?_)
 refine jc (jc (lM ?_))
 refine Z.g 1 ?_
 refine aI (fun w31 o9 => ?_)
 refine jm ?_
 replace bC := o9.af bC
 refine Z.s bC (fun w32 bC _ lU => ?_)
 replace dh := (dh.ai df).ai o9
 replace dh := dh.aF lU (Own.aS dh (by assumption) (by decide))
 replace dP := o9.af (df.af dP)
 replace dP := lU.aj dP (by exact dW (by assumption) (by assumption) (by decide))
 refine ⟨lU, ?_⟩
 refine Z.g 2 ?_
 refine aI (fun w33 uN => ?_)
 replace bC := uN.af bC
 refine Z.s bC (fun VY bC _ og => ?_)
 replace dh := dh.ai uN
 replace dh := dh.aF og (Own.aS dh (by assumption) (by decide))
 replace dP := uN.af dP
 replace dP := og.aj dP (by exact dW (by assumption) (by assumption) (by decide))
 refine aI (fun w35 pJ => ?_)
 refine ak (dK _ (by omega)) ?_
 replace jZ := (((((jZ.ai df).ai o9).aF lU ry).ai uN).aF og ry).ai pJ
 replace iE := (((((iE.ai df).ai o9).aF lU rC).ai uN).aF og rC).ai pJ
 replace ay := pJ.af (og.aj (uN.af (lU.aj (o9.af (df.af ay)) pR)) pR)
 replace ax := pJ.af (og.aj (uN.af (lU.aj (o9.af (df.af ax)) pU)) pU)
 replace ah := pJ.af (og.aj (uN.af (lU.aj (o9.af (df.af ah)) lL)) lL)
 replace hF := (((((hF.go0 df).go0 o9).go1 lU jF).go0 uN).go1 og jF).go0 pJ
 replace dh := dh.ai pJ
 replace dP := pJ.af dP
 replace bC := pJ.af bC
 exact ⟨⟨k + 1, (Gs.fK s1 x5.m).1, (Gs.mrg o1 (Gs.fK s1 x5.m).2), bp18, A18, n18, cp18, (by rfl), by omega, (Gs.yA hinv (Gs.EO hx5) he18), hS2, hbp2, hov2, nf1b, nf2b, ng1b, ng2b, ay, dP, dh, (by (rw [Gs.ajo (by assumption) (by assumption)]; exact bC)), ax, ah, jZ, iE, hF⟩, cnt_lt (by rfl) rfl (by omega)⟩
 refine eG ?_
 refine Z.g 2 ?_
 refine eG ?_
 refine bJ (fun w' hw' => by have je := hw'.aj je (Ne.symm CE); exact (kZ (by kernel_rfl) je (by rfl))) ?_
 refine jq ?_
 refine Z.g 1 ?_
 refine aI (fun w36 oh => ?_)
 refine jm ?_
 replace bC := oh.af bC
 refine Z.s bC (fun w37 bC _ pz => ?_)
 replace dh := (dh.ai df).ai oh
 replace dh := dh.aF pz (Own.aS dh (by assumption) (by decide))
 replace dP := oh.af (df.af dP)
 replace dP := pz.aj dP (by exact dW (by assumption) (by assumption) (by decide))
 refine ⟨pz, ?_⟩
 refine Z.g 2 ?_
 refine aI (fun w38 wo => ?_)
 replace bC := wo.af bC
 refine Z.s bC (fun w39 bC _ uI => ?_)
 replace dh := dh.ai wo
 replace dh := dh.aF uI (Own.aS dh (by assumption) (by decide))
 replace dP := wo.af dP
 replace dP := uI.aj dP (by exact dW (by assumption) (by assumption) (by decide))
 refine aI (fun w40 mW => ?_)
 refine ak (dK _ (by omega)) ?_
 replace jZ := (((((jZ.ai df).ai oh).aF pz ry).ai wo).aF uI ry).ai mW
 replace iE := (((((iE.ai df).ai oh).aF pz rC).ai wo).aF uI rC).ai mW
 replace ay := mW.af (uI.aj (wo.af (pz.aj (oh.af (df.af ay)) pR)) pR)
 replace ax := mW.af (uI.aj (wo.af (pz.aj (oh.af (df.af ax)) pU)) pU)
 replace ah := mW.af (uI.aj (wo.af (pz.aj (oh.af (df.af ah)) lL)) lL)
 replace hF := (((((hF.go0 df).go0 oh).go1 pz jF).go0 wo).go1 uI jF).go0 mW
 replace dh := dh.ai mW
 replace dP := mW.af dP
 replace bC := mW.af bC
 exact ⟨⟨k + 1, (Gs.fK s1 x5.m).1, (Gs.mrg o1 (Gs.fK s1 x5.m).2), bp18, A18, n18, cp18, (by rfl), by omega, (Gs.yA hinv (Gs.EO hx5) he18), hS2, hbp2, hov2, nf1b, nf2b, ng1b, ng2b, ay, dP, dh, (by (rw [Gs.ajp (by assumption) (by assumption)]; exact bC)), ax, ah, jZ, iE, hF⟩, cnt_lt (by rfl) rfl (by omega)⟩
 refine aC ?_
 refine hJ1 _ _ ?_
 exact ⟨_, _, _, _, _, _, (Gs.VG hinv (by omega)), hS1, hbp, hov, ay, nN, jd, bC, ax, ah, hF⟩
 replace ay := U3.af ay
 replace ah := U3.af ah
 replace ax := U3.af ax
 replace hF := hF.go0 U3
 obtain ⟨s1, o1, bp1, A1, n1, cp1, hfin, hS1, hbp, hov, ay, nN, jd, bC, ax, ah, hF⟩ := hI
 refine Z.f 3 ?_
 refine Z.l ah ?_
 refine az (kR _ _ _ _ _) (fun h41 => ?_) (fun h41 => ?_)
 refine aJ ?_
 refine Z.f 3 ?_
 refine Z.l ah ?_
 refine ak (bG (l := [(0, 1), (1, 1), (2, 1), (3, 1)]) (z := #[Z.u 0, .bool false, .bool false, Z.i 0]) (cs := Gs.re (Gs.wL x.e)) (by kernel_rfl) (by rfl)) ?_
 refine Z.t 4 ((Gs.re (Gs.wL x.e)).toArray) (by (simp [Value.cells, Value.oneCell', Gs.cv, Gs.fv, Gs.ie, Gs.pe, Gs.oe, Gs.cO, Gs.fe, Gs.fM, Gs.ce, Gs.dZ, Gs.re]; done)) ax (fun w43 ax _ oz => ?_)
 replace jd := jd.aF oz (Own.aS jd (by assumption) (by decide))
 replace nN := oz.aj nN (by exact dW (by assumption) (by assumption) (by decide))
 refine Z.a 4 ax ?_
 replace ay := oz.aj ay iV
 replace hF := hF.go1 oz eQ
 rw [hfin]; (rw [if_neg (by assumption)]; exact ⟨_, rfl, rfl, bp1, A1, n1, cp1, ay, nN, jd, hS1.2.1, hbp, hov, hF⟩)
 refine aC ?_
 refine Z.b 4 ((Gs.re o1).toArray) bC ?_
 refine Z.t 4 ((Gs.re o1).toArray) (by (simp [Value.cells, Value.oneCell', Gs.cv, Gs.fv, Gs.ie, Gs.pe, Gs.oe, Gs.cO, Gs.fe, Gs.fM, Gs.ce, Gs.dZ, Gs.re]; done)) ax (fun w45 ax _ zV => ?_)
 replace jd := jd.aF zV (Own.aS jd (by assumption) (by decide))
 replace nN := zV.aj nN (by exact dW (by assumption) (by assumption) (by decide))
 refine Z.a 4 ax ?_
 replace ay := zV.aj ay iV
 replace hF := hF.go1 zV eQ
 rw [hfin]; (rw [if_pos (Classical.not_not.1 (by assumption))]; exact ⟨_, rfl, rfl, bp1, A1, n1, cp1, ay, nN, jd, hS1.2.1, hbp, hov, hF⟩)
theorem abP {s : Gs.iL} {A : Option Addr} {n cp bp bs B0 : Nat} {w : World} (ay : Z.h w bs #[Z.i s.r0, Z.i s.c0, Z.i s.r1, Z.i s.c1, Z.i s.wh, Z.p bp] 89) (ag : Z.h w bp #[Z.i s.r, Z.i s.c, .slice A n cp, Z.i s.cur] 91) (ae : Own B0 w 37 5 (.slice A n cp) (rows Gs.cv s.cs)) (hS : Gs.Sw n s) (hB0 : B0 ≤ w.heap.size) {x : Gs.pq} {fs : List Gs.Fd} {fA : Option Addr} {fc : Nat} (jZ : Rd w fA (rows Gs.fe fs)) (iE : Gs.gU w fs) (hfw : Gs.Bz fs) (hfl : Gs.WS fs) (hfn : fs.length ≤ 100000) (nf1 : rows Gs.fe fs = [] ∨ ∀ k, eY fA k → ¬ aH (.slice A n cp) k) (nf2 : rows Gs.fe fs = [] ∨ ∀ k, eY fA k → k ≠ bp) (nf3 : rows Gs.fe fs = [] ∨ ∀ k, eY fA k → k ≠ bs) (ng1 : fs = [] ∨ ∀ k, Gs.kP fs k → ¬ aH (.slice A n cp) k) (ng2 : fs = [] ∨ ∀ k, Gs.kP fs k → k ≠ bp) (ng3 : fs = [] ∨ ∀ k, Gs.kP fs k → k ≠ bs) (hk : x.k = 243) :
    oX 65 #[Z.p bs, .agg (Gs.ce x fA fs.length fc).toArray] w (WR (Gs.kU x.e (Gs.qL fs) s Gs.pW).1 (Gs.kU x.e (Gs.qL fs) s Gs.pW).2 A n cp bp bs B0 w) := by
 refine Wx.calls ?_
 unfold Wx
 have hW := hS.2
 obtain ⟨hn, hcw, hcu, hp, hN, hb⟩ := id hW
 have hF : aA (fun k => (aH (.slice A n cp) k ∨ k = bp) ∨ k = bs) w w := Fr.refl _ _ _
 refine Z.x ((Gs.ce x fA fs.length fc).toArray) (fun b1 w1 e1 ah _ U1 => ?_)
 refine Z.n ((Gs.re Gs.pW).toArray) (fun b2 w2 e2 ax _ U2 => ?_)
 replace ay := U1.af ay
 have iV : bs ≠ b2 := by have := au ay; omega
 replace ag := U1.af ag
 have eU : bp ≠ b2 := by have := au ag; omega
 replace hF := hF.go0 U1
 have eQ : w.heap.size ≤ b2 := by have := hF.size; omega
 refine Z.f 0 ?_
 replace ah := U2.af ah
 refine Z.l ah ?_
 refine ny (cZ _ _ _ _ _) (by omega) ?_
 refine aC ?_
 refine ny (cZ _ _ _ _ _) (by omega) ?_
 refine aC ?_
 refine ny (cZ _ _ _ _ _) (by omega) ?_
 refine aC ?_
 refine ny (cZ _ _ _ _ _) (by omega) ?_
 refine aC ?_
 refine bM (fun g w' => (g 43 = .bool false) ∧ (Z.h w' bs #[Z.i s.r0, Z.i s.c0, Z.i s.r1, Z.i s.c1, Z.i s.wh, Z.p bp] 89) ∧ (Z.h w' bp #[Z.i s.r, Z.i s.c, .slice A n cp, Z.i s.cur] 91) ∧ (Own B0 w' 37 5 (.slice A n cp) (rows Gs.cv s.cs)) ∧ (Rd w' fA (rows Gs.fe fs)) ∧ (Gs.gU w' fs) ∧ (Z.h w' b1 ((Gs.ce x fA fs.length fc).toArray) 124) ∧ (Z.h w' b2 ((Gs.re Gs.pW).toArray) 66) ∧ (aA (fun k => (aH (.slice A n cp) k ∨ k = bp) ∨ k = bs) w w')) (fun J1 hJ1 => ?_) (fun gJ1 jT hI => ?_)
 refine ny (cZ _ _ _ _ _) (by omega) ?_
 refine aC ?_
 refine ny (cZ _ _ _ _ _) (by omega) ?_
 refine aC ?_
 refine ny (cZ _ _ _ _ _) (by omega) ?_
 refine hJ1 _ _ ?_
 replace ae := (ae.ai U1).ai U2
 replace jZ := (jZ.ai U1).ai U2
 replace iE := (iE.ai U1).ai U2
 replace ay := U2.af ay
 replace ag := U2.af ag
 replace hF := hF.go0 U2
 exact ⟨(by rfl), ay, ag, ae, jZ, iE, ah, ax, hF⟩
 replace ae := (ae.ai U1).ai U2
 replace jZ := (jZ.ai U1).ai U2
 replace iE := (iE.ai U1).ai U2
 replace ay := U2.af ay
 replace ag := U2.af ag
 replace hF := hF.go0 U2
 obtain ⟨g43, ay, ag, ae, jZ, iE, ah, ax, hF⟩ := hI
 rw [g43]
 refine aC ?_
 refine wQ (cZ _ _ _ _ _) (hk) ?_
 refine aJ ?_
 refine Z.b 5 ((Gs.ce x fA fs.length fc).toArray) ah ?_
 refine aN (Ud ay ag ae hS (by have := hF.size; omega) jZ iE hfw hfl hfn nf1 nf2 nf3 ng1 ng2 ng3) (fun v3 w3 D3 => ?_)
 have aK := ae
 have qF3 := hF.size
 have anp := hF.size
 obtain ⟨rfl, bp54, A54, n54, cp54, ay, CG, vV, hn54, hb54, ho54, U3⟩ := D3
 replace ax := U3.get ax (fun hs => by rcases hs with (hs | hs) | hs <;> first | (first | exact Own.aS aK ax (by decide) _ hs rfl | (have := Own.ge aK hs; omega)) | (exact absurd hs (Ne.symm eU)) | (exact absurd hs (Ne.symm iV)))
 replace hF := hF.go U3 (fun i hi hs => by exact hs)
 clear aK
 refine Z.t 4 ((Gs.re (Gs.kU x.e (Gs.qL fs) s Gs.pW).2).toArray) (by (simp [Value.cells, Value.oneCell', Gs.cv, Gs.fv, Gs.ie, Gs.pe, Gs.oe, Gs.cO, Gs.fe, Gs.fM, Gs.ce, Gs.dZ, Gs.re]; done)) ax (fun w4 ax _ U4 => ?_)
 replace vV := vV.aF U4 (Own.aS vV (by assumption) (by decide))
 replace CG := U4.aj CG (by exact dW (by assumption) (by assumption) (by decide))
 refine Z.a 4 ax ?_
 replace ay := U4.aj ay iV
 replace hF := hF.go1 U4 eQ
 exact ⟨_, rfl, rfl, bp54, A54, n54, cp54, ay, CG, vV, hn54, hb54.imp id (fun h => by omega), (fun k hk => (ho54 k hk).imp id (fun h => by omega)), hF⟩
theorem abQ {s : Gs.iL} {A : Option Addr} {n cp bp bs B0 : Nat} {w : World} (ay : Z.h w bs #[Z.i s.r0, Z.i s.c0, Z.i s.r1, Z.i s.c1, Z.i s.wh, Z.p bp] 89) (ag : Z.h w bp #[Z.i s.r, Z.i s.c, .slice A n cp, Z.i s.cur] 91) (ae : Own B0 w 37 5 (.slice A n cp) (rows Gs.cv s.cs)) (hS : Gs.Sw n s) (hB0 : B0 ≤ w.heap.size) {x : Gs.pq} {fs : List Gs.Fd} {fA : Option Addr} {fc : Nat} (jZ : Rd w fA (rows Gs.fe fs)) (iE : Gs.gU w fs) (hfw : Gs.Bz fs) (hfl : Gs.WS fs) (hfn : fs.length ≤ 100000) (nf1 : rows Gs.fe fs = [] ∨ ∀ k, eY fA k → ¬ aH (.slice A n cp) k) (nf2 : rows Gs.fe fs = [] ∨ ∀ k, eY fA k → k ≠ bp) (nf3 : rows Gs.fe fs = [] ∨ ∀ k, eY fA k → k ≠ bs) (ng1 : fs = [] ∨ ∀ k, Gs.kP fs k → ¬ aH (.slice A n cp) k) (ng2 : fs = [] ∨ ∀ k, Gs.kP fs k → k ≠ bp) (ng3 : fs = [] ∨ ∀ k, Gs.kP fs k → k ≠ bs) (gy : Gs.gU w [⟨0, 0, x⟩]) (hwx : Gs.Ap x) (hlx : Gs.EL x.os ∧ x.os.length ≤ 100000) (nax1 : [(⟨0, 0, x⟩ : Gs.Fd)] = [] ∨ ∀ k, Gs.kP [⟨0, 0, x⟩] k → ¬ aH (.slice A n cp) k) (nax2 : [(⟨0, 0, x⟩ : Gs.Fd)] = [] ∨ ∀ k, Gs.kP [⟨0, 0, x⟩] k → k ≠ bp) (nax3 : [(⟨0, 0, x⟩ : Gs.Fd)] = [] ∨ ∀ k, Gs.kP [⟨0, 0, x⟩] k → k ≠ bs)  :
    oX 65 #[Z.p bs, .agg (Gs.ce x fA fs.length fc).toArray] w (WR (Gs.zW s ⟨x.m, Gs.qL fs⟩).1 (Gs.zW s ⟨x.m, Gs.qL fs⟩).2 A n cp bp bs B0 w) := by
 by_cases h : x.k = 243
 rw [Gs.ali (c := ⟨x.m, Gs.qL fs⟩) h]
 exact abP ay ag ae hS hB0 jZ iE hfw hfl hfn nf1 nf2 nf3 ng1 ng2 ng3 h
 rw [Gs.alj (c := ⟨x.m, Gs.qL fs⟩) h]
 exact PU ay ag ae hS hB0 gy hwx hlx nax1 nax2 nax3 h
theorem IV {s : Gs.iL} {A : Option Addr} {n cp bp bs B0 : Nat} {w : World} (ay : Z.h w bs #[Z.i s.r0, Z.i s.c0, Z.i s.r1, Z.i s.c1, Z.i s.wh, Z.p bp] 89) (ag : Z.h w bp #[Z.i s.r, Z.i s.c, .slice A n cp, Z.i s.cur] 91) (ae : Own B0 w 37 5 (.slice A n cp) (rows Gs.cv s.cs)) (hS : Gs.Sw n s) (hB0 : B0 ≤ w.heap.size) {bA : Option Addr} {bn bc : Nat} {b : List Int} (rdb : Rd w bA (vals .u8 b)) (hbn : bn = b.length) (hbc : bn ≤ bc) (hbs : Bs b) (hbl : bn ≤ 100000) (nab1 : vals .u8 b = [] ∨ ∀ k, eY bA k → ¬ aH (.slice A n cp) k) (nab2 : vals .u8 b = [] ∨ ∀ k, eY bA k → k ≠ bp) (nab3 : vals .u8 b = [] ∨ ∀ k, eY bA k → k ≠ bs)  :
    oX 27 #[Z.p bs, .slice bA bn bc] w (WR (Gs.yP s b).1 (Gs.yP s b).2 A n cp bp bs B0 w) := by
 refine F27.calls ?_
 unfold F27
 have hW := hS.2
 obtain ⟨hn, hcw, hcu, hp, hN, hb⟩ := id hW
 have hF : aA (fun k => (aH (.slice A n cp) k ∨ k = bp) ∨ k = bs) w w := Fr.refl _ _ _
 refine Z.n ((Gs.re Gs.pW).toArray) (fun b1 w1 e1 ah _ U1 => ?_)
 have xq : bs ≠ b1 := by have := au ay; omega
 have kX : bp ≠ b1 := by have := au ag; omega
 have iq := ae.apart e1
 have bZ : w.heap.size ≤ b1 := by have := hF.size; omega
 replace rdb := rdb.ai U1
 refine aN (JK b.length rdb hbn hbc hbs hbl (by omega)) (fun v2 w2 D2 => ?_)
 replace hF := hF.go0 U1
 have qF9 := hF.size
 obtain ⟨x9, fs9, fA9, fc9, er9, rfl, hpn9, ZR, ZT, ZU, gX9, gA9, gG9, hw9, hfw9, hk9, U2⟩ := D2
 replace ay := U1.af ay
 have ZV := gX9.ne (au ay)
 replace ag := U1.af ag
 have ZW := gX9.ne (au ag)
 replace ae := ae.ai U1
 have QN : _ ∨ ∀ k, _ → ¬ aH _ k := gX9.imp_right fun h k hk hs => by have := h k hk; have := (Own.ge ae hs).2; omega
 have ZX := gA9.ne (au ay)
 have ZY := gA9.ne (au ag)
 have QO : _ ∨ ∀ k, _ → ¬ aH _ k := gA9.imp_right fun h k hk hs => by have := h k hk; have := (Own.ge ae hs).2; omega
 have ZZ := gG9.ne (au ay)
 have Z4 := gG9.ne (au ag)
 have QP : _ ∨ ∀ k, _ → ¬ aH _ k := gG9.imp_right fun h k hk hs => by have := h k hk; have := (Own.ge ae hs).2; omega
 have hpk := Gs.adG hpn9 (by omega)
 have hpl := Gs.adH hpn9 (by omega)
 refine Z.e ?_
 refine Z.e ?_
 refine Z.n ((Gs.ce Gs.jD none 0 0).toArray) (fun b3 w3 e3 bC _ U3 => ?_)
 replace ay := U2.af ay
 have pR : bs ≠ b3 := by have := au ay; omega
 replace ag := U2.af ag
 have lH : bp ≠ b3 := by have := au ag; omega
 replace ae := ae.ai U2
 have iQ := ae.apart e3
 replace ah := U2.af ah
 have lL : b1 ≠ b3 := by have := au ah; omega
 have Z5 := ZR.apart e3
 have Z7 := ZT.apart e3
 have Z8 := ZU.apart e3
 replace hF := hF.go0 U2
 have jF : w.heap.size ≤ b3 := by have := hF.size; omega
 refine Z.t 5 ((Gs.ce x9 fA9 fs9.length fc9).toArray) (by (simp [Value.cells, Value.oneCell', Gs.cv, Gs.fv, Gs.ie, Gs.pe, Gs.oe, Gs.cO, Gs.fe, Gs.fM, Gs.ce, Gs.dZ, Gs.re]; done)) bC (fun w4 bC _ U4 => ?_)
 refine az (kR _ _ _ _ _) (fun h5 => ?_) (fun h5 => ?_)
 refine aJ ?_
 refine ak (bG (l := [(0, 1), (1, 1), (2, 1), (3, 1)]) (z := #[Z.u 0, .bool false, .bool false, Z.i 0]) (cs := Gs.re (Gs.wL er9)) (by kernel_rfl) (by rfl)) ?_
 replace ah := U4.aj (U3.af ah) lL
 refine Z.t 4 ((Gs.re (Gs.wL er9)).toArray) (by (simp [Value.cells, Value.oneCell', Gs.cv, Gs.fv, Gs.ie, Gs.pe, Gs.oe, Gs.cO, Gs.fe, Gs.fM, Gs.ce, Gs.dZ, Gs.re]; done)) ah (fun w7 ah _ U7 => ?_)
 refine Z.a 4 ah ?_
 replace ae := ((ae.ai U3).aF U4 iQ).aF U7 iq
 replace ay := U7.aj (U4.aj (U3.af ay) pR) xq
 replace ag := U7.aj (U4.aj (U3.af ag) lH) kX
 replace hF := ((hF.go0 U3).go1 U4 jF).go1 U7 bZ
 rw [Gs.ajq hpn9 (by assumption)]; exact ⟨_, rfl, rfl, bp, A, n, cp, ay, ag, ae, hn, .inl rfl, (fun k hk => .inl hk), hF⟩
 refine aC ?_
 refine Z.b 5 ((Gs.ce x9 fA9 fs9.length fc9).toArray) bC ?_
 replace ae := (ae.ai U3).aF U4 iQ
 replace ZR := (ZR.ai U3).aF U4 Z5
 replace ZT := (ZT.ai U3).aF U4 Z7
 replace ZU := (ZU.ai U3).aF U4 Z8
 replace ay := U4.aj (U3.af ay) pR
 replace ag := U4.aj (U3.af ag) lH
 replace hF := (hF.go0 U3).go1 U4 jF
 refine aN (abQ ay ag ae hS (by have := hF.size; omega) ZT ZU hfw9 hpk.2 hpl QO ZY ZX QP Z4 ZZ ZR hw9 hpk.1 QN ZW ZV) (fun v9 w9 D9 => ?_)
 have aK := ae
 have qF9 := hF.size
 have ano := hF.size
 obtain ⟨rfl, bp18, A18, n18, cp18, ay, dP, dh, hn18, hb18, ho18, U9⟩ := D9
 replace ah := U4.aj (U3.af ah) lL
 replace ah := U9.get ah (fun hs => by rcases hs with (hs | hs) | hs <;> first | (first | exact Own.aS aK ah (by decide) _ hs rfl | (have := Own.ge aK hs; omega)) | (exact absurd hs (Ne.symm kX)) | (exact absurd hs (Ne.symm xq)))
 replace hF := hF.go U9 (fun i hi hs => by exact hs)
 clear aK
 refine Z.t 4 ((Gs.re (Gs.zW s ⟨x9.m, Gs.qL fs9⟩).2).toArray) (by (simp [Value.cells, Value.oneCell', Gs.cv, Gs.fv, Gs.ie, Gs.pe, Gs.oe, Gs.cO, Gs.fe, Gs.fM, Gs.ce, Gs.dZ, Gs.re]; done)) ah (fun w10 ah _ aY => ?_)
 replace dh := dh.aF aY (Own.aS dh (by assumption) (by decide))
 replace dP := aY.aj dP (by exact dW (by assumption) (by assumption) (by decide))
 refine Z.a 4 ah ?_
 replace ay := aY.aj ay xq
 replace hF := hF.go1 aY bZ
 rw [Gs.RS hpn9 (Classical.not_not.1 (by assumption))]; exact ⟨_, rfl, rfl, bp18, A18, n18, cp18, ay, dP, dh, hn18, hb18.imp id (fun h => by omega), (fun k hk => (ho18 k hk).imp id (fun h => by omega)), hF⟩
theorem Md {bk : Nat} {st why tn : Int} {x0 x4 x5 : Value} {w : World} (aG : Z.h w bk #[x0, Z.i st, Z.i why, Z.i tn, x4, x5] 95) (hst : 1 ≤ st ∧ st ≤ 3)  :
    oX 63 #[.pointer (some ⟨bk, 1, none⟩)] w fun e w' => ∃ v, e = .returned v ∧ ∃ (q : Bool) (why tn : Int), v = .bool q ∧ Z.h w' bk #[x0, Z.i 1, Z.i why, Z.i tn, x4, x5] 95 ∧ aA (· = bk) w w' := by
 refine F63.calls ?_
 unfold F63
 have hF : aA (· = bk) w w := Fr.refl _ _ _
 refine dw ?_
 refine Z.f 0 ?_
 refine Z.l aG ?_
 refine az (kR _ _ _ _ _) (fun h1 => ?_) (fun h1 => ?_)
 refine aX (aX ?_)
 refine dw ?_
 refine aX ?_
 refine Z.f 0 ?_
 refine aX ?_
 refine Z.l aG ?_
 refine aX ?_
 refine az (kR _ _ _ _ _) (fun h2 => ?_) (fun h2 => ?_)
 refine aT (aJ ?_)
 (have e : st = 1 := (by omega); subst e; exact ⟨_, rfl, _, _, _, rfl, aG, hF⟩)
 refine aT (aC ?_)
 refine aN (zt aG) (fun v4 w4 D4 => ?_)
 obtain ⟨t16, N4, U4⟩ := D4
 replace aG := N4
 replace hF := hF.go U4 (fun i _ h => h)
 exact ⟨_, rfl, _, _, _, rfl, aG, hF⟩
 refine aQ (aQ (aQ (aQ (aQ (aU (aC ?_))))))
 refine aN (zt aG) (fun v6 w6 D6 => ?_)
 obtain ⟨t16, N6, U6⟩ := D6
 replace aG := N6
 replace hF := hF.go U6 (fun i _ h => h)
 exact ⟨_, rfl, _, _, _, rfl, aG, hF⟩
theorem QG {bk : Nat} {st why tn : Int} {x0 x4 x5 : Value} {w : World} (aG : Z.h w bk #[x0, Z.i st, Z.i why, Z.i tn, x4, x5] 95) (hst : 1 ≤ st ∧ st ≤ 3)  :
    oX 47 #[.pointer (some ⟨bk, 1, none⟩)] w fun e w' => ∃ v, e = .returned v ∧ ∃ (q : Bool) (st why tn : Int), v = .bool q ∧ (1 ≤ st ∧ st ≤ 3) ∧ Z.h w' bk #[x0, Z.i st, Z.i why, Z.i tn, x4, x5] 95 ∧ aA (· = bk) w w' := by
 refine F47.calls ?_
 unfold F47
 have hF : aA (· = bk) w w := Fr.refl _ _ _
 refine dw ?_
 refine Z.f 0 ?_
 refine Z.l aG ?_
 refine az (kR _ _ _ _ _) (fun h1 => ?_) (fun h1 => ?_)
 refine aJ ?_
 exact ⟨_, rfl, _, _, _, _, rfl, hst, aG, hF⟩
 refine aC ?_
 refine aN (zt aG) (fun v3 w3 D3 => ?_)
 obtain ⟨t9, N3, U3⟩ := D3
 replace aG := N3
 replace hF := hF.go U3 (fun i _ h => h)
 exact ⟨_, rfl, _, _, _, _, rfl, (by decide : (1 : Int) ≤ 1 ∧ (1 : Int) ≤ 3), aG, hF⟩
theorem SQ {bk : Nat} {st why tn : Int} {x0 x4 x5 : Value} {w : World} (aG : Z.h w bk #[x0, Z.i st, Z.i why, Z.i tn, x4, x5] 95) {y : Int} (hs : st = 1) :
    oX 51 #[.pointer (some ⟨bk, 1, none⟩), Z.i y] w fun e w' => ∃ v, e = .returned v ∧ v = Z.i y ∧ ∃ (st why tn : Int), (1 ≤ st ∧ st ≤ 3) ∧ Z.h w' bk #[x0, Z.i st, Z.i why, Z.i tn, x4, x5] 95 ∧ aA (· = bk) w w' := by
 refine F51.calls ?_
 unfold F51
 have hF : aA (· = bk) w w := Fr.refl _ _ _
 refine aB (qf aG) (fun w1 U1 => ?_)
 rw [if_pos hs]
 refine ny (kR _ _ _ _ _) (fun h => h rfl) ?_
 refine aC ?_
 refine bM (fun g w' => ∃ (st : Int) (why : Int) (tn : Int), (Z.h w' bk #[x0, Z.i st, Z.i why, Z.i tn, x4, x5] 95) ∧ ((1 ≤ st ∧ st ≤ 3)) ∧ (aA (· = bk) w w')) (fun J1 hJ1 => ?_) (fun gJ1 jT hI => ?_)
 refine az (kR _ _ _ _ _) (fun h2 => ?_) (fun h2 => ?_)
 refine aJ ?_
 replace aG := U1.af aG
 refine aN (DX aG (s2 := 3) (y2 := y)) (fun v3 w3 D3 => ?_)
 obtain ⟨t15, N3, U3⟩ := D3
 replace aG := N3
 replace hF := hF.go0 U1
 replace hF := hF.go U3 (fun i _ h => h)
 refine hJ1 _ _ ?_
 exact ⟨_, _, _, aG, (by omega), hF⟩
 refine aC ?_
 refine hJ1 _ _ ?_
 replace aG := U1.af aG
 replace hF := hF.go0 U1
 exact ⟨_, _, _, aG, (by omega), hF⟩
 replace aG := U1.af aG
 replace hF := hF.go0 U1
 obtain ⟨st, why, tn, aG, hst, hF⟩ := hI
 exact ⟨_, rfl, rfl, _, _, _, hst, aG, hF⟩
theorem Yk {r c cur : Int} {A : Option Addr} {n cp bp B0 : Nat} {cs : List Gs.Cell} {w : World} (ag : Z.h w bp #[Z.i r, Z.i c, .slice A n cp, Z.i cur] 91) (ae : Own B0 w 37 5 (.slice A n cp) (rows Gs.cv cs)) (hW : Gs.Pw r c n cs cur) {k : Int} :
    oX 50 #[Z.p bp, Z.i k] w fun e w' => ∃ v, e = .returned v ∧ ∃ (q : Bool) (cur1 : Int), v = .bool q ∧ Gs.Pw r c n cs cur1 ∧ (q = true → 2 ≤ k ∧ k ≤ 9) ∧ (q = false → cur1 = cur ∧ ¬ (2 ≤ k ∧ k ≤ 9)) ∧ Z.h w' bp #[Z.i r, Z.i c, .slice A n cp, Z.i cur1] 91 ∧ aA (· = bp) w w' := by
 refine F50.calls ?_
 unfold F50
 obtain ⟨hn, hcw, hcu, hp, hN, hb⟩ := id hW; have hrc := hW.rc
 have hF : aA (· = bp) w w := Fr.refl _ _ _
 refine bM (fun g w' => ∃ (cur1 : Int), (Z.h w' bp #[Z.i r, Z.i c, .slice A n cp, Z.i cur1] 91) ∧ (Gs.Pw r c n cs cur1) ∧ (2 ≤ k ∧ k ≤ 9) ∧ (aA (· = bp) w w')) (fun J1 hJ1 => ?_) (fun gJ1 jT hI => ?_)
 refine az (cZ _ _ _ _ _) (fun h1 => ?_) (fun h1 => ?_)
 refine aJ ?_
 refine aN (DW ag ae hW) (fun v2 w2 D2 => ?_)
 obtain ⟨cur, rfl, hW, N2, U2⟩ := D2
 obtain ⟨hn, hcw, hcu, hp, hN, hb⟩ := id hW
 replace ag := N2
 replace hF := hF.go U2 (fun i _ h => h)
 refine hJ1 _ _ ?_
 exact ⟨_, ag, hW, (by omega), hF⟩
 refine aC ?_
 refine az (cZ _ _ _ _ _) (fun h3 => ?_) (fun h3 => ?_)
 refine aJ ?_
 refine aN (Sl ag ae hW) (fun v4 w4 D4 => ?_)
 obtain ⟨cur, rfl, hW, N4, U4⟩ := D4
 obtain ⟨hn, hcw, hcu, hp, hN, hb⟩ := id hW
 replace ag := N4
 replace hF := hF.go U4 (fun i _ h => h)
 refine hJ1 _ _ ?_
 exact ⟨_, ag, hW, (by omega), hF⟩
 refine aC ?_
 refine az (cZ _ _ _ _ _) (fun h5 => ?_) (fun h5 => ?_)
 refine aJ ?_
 refine aN (LZ ag ae hW) (fun v6 w6 D6 => ?_)
 obtain ⟨cur, rfl, hW, N6, U6⟩ := D6
 obtain ⟨hn, hcw, hcu, hp, hN, hb⟩ := id hW
 replace ag := N6
 replace hF := hF.go U6 (fun i _ h => h)
 refine hJ1 _ _ ?_
 exact ⟨_, ag, hW, (by omega), hF⟩
 refine aC ?_
 refine az (cZ _ _ _ _ _) (fun h7 => ?_) (fun h7 => ?_)
 refine aJ ?_
 refine aN (QC ag ae hW) (fun v8 w8 D8 => ?_)
 obtain ⟨cur, rfl, hW, N8, U8⟩ := D8
 obtain ⟨hn, hcw, hcu, hp, hN, hb⟩ := id hW
 replace ag := N8
 replace hF := hF.go U8 (fun i _ h => h)
 refine hJ1 _ _ ?_
 exact ⟨_, ag, hW, (by omega), hF⟩
 refine aC ?_
 refine az (cZ _ _ _ _ _) (fun h9 => ?_) (fun h9 => ?_)
 refine aJ ?_
 refine aN (xY ag ae hW (i := -1) (j := 0) (by decide) (by decide)) (fun v10 w10 D10 => ?_)
 obtain ⟨cur, rfl, hW, N10, aY⟩ := D10
 obtain ⟨hn, hcw, hcu, hp, hN, hb⟩ := id hW
 replace ag := N10
 replace hF := hF.go aY (fun i _ h => h)
 refine hJ1 _ _ ?_
 exact ⟨_, ag, hW, (by omega), hF⟩
 refine aC ?_
 refine az (cZ _ _ _ _ _) (fun h11 => ?_) (fun h11 => ?_)
 refine aJ ?_
 refine aN (xY ag ae hW (i := 1) (j := 0) (by decide) (by decide)) (fun v12 w12 D12 => ?_)
 obtain ⟨cur, rfl, hW, N12, di⟩ := D12
 obtain ⟨hn, hcw, hcu, hp, hN, hb⟩ := id hW
 replace ag := N12
 replace hF := hF.go di (fun i _ h => h)
 refine hJ1 _ _ ?_
 exact ⟨_, ag, hW, (by omega), hF⟩
 refine aC ?_
 refine az (cZ _ _ _ _ _) (fun h13 => ?_) (fun h13 => ?_)
 refine aJ ?_
 refine aN (xY ag ae hW (i := 0) (j := -1) (by decide) (by decide)) (fun v14 sO D14 => ?_)
 obtain ⟨cur, rfl, hW, N14, dC⟩ := D14
 obtain ⟨hn, hcw, hcu, hp, hN, hb⟩ := id hW
 replace ag := N14
 replace hF := hF.go dC (fun i _ h => h)
 refine hJ1 _ _ ?_
 exact ⟨_, ag, hW, (by omega), hF⟩
 refine aC ?_
 refine az (cZ _ _ _ _ _) (fun h15 => ?_) (fun h15 => ?_)
 refine aJ ?_
 refine aN (xY ag ae hW (i := 0) (j := 1) (by decide) (by decide)) (fun v16 w16 D16 => ?_)
 obtain ⟨cur, rfl, hW, N16, bQ⟩ := D16
 obtain ⟨hn, hcw, hcu, hp, hN, hb⟩ := id hW
 replace ag := N16
 replace hF := hF.go bQ (fun i _ h => h)
 refine hJ1 _ _ ?_
 exact ⟨_, ag, hW, (by omega), hF⟩
 refine aC ?_
 exact ⟨_, rfl, _, _, rfl, hW, (fun h => by cases h), (fun _ => ⟨rfl, by omega⟩), ag, hF⟩
 obtain ⟨cur1, ag, hW1, hk9, hF⟩ := hI
 exact ⟨_, rfl, _, _, rfl, hW1, (fun _ => hk9), (fun h => by cases h), ag, hF⟩
theorem Yl {r c cur : Int} {A : Option Addr} {n cp bp B0 : Nat} {cs : List Gs.Cell} {bk bs : Nat} {st why tn last : Int} {ins : Bool} {r0 c0 r1 c1 wh : Int} {w : World} (ag : Z.h w bp #[Z.i r, Z.i c, .slice A n cp, Z.i cur] 91) (ae : Own B0 w 37 5 (.slice A n cp) (rows Gs.cv cs)) (hW : Gs.Pw r c n cs cur) (aG : Z.h w bk #[Z.p bs, Z.i st, Z.i why, Z.i tn, .bool ins, Z.u last] 95) (ay : Z.h w bs #[Z.i r0, Z.i c0, Z.i r1, Z.i c1, Z.i wh, Z.p bp] 89) {k x : Int} (hxb : 0 ≤ x ∧ x ≤ 255) :
    oX 52 #[Z.p bk, .agg #[Z.i k, Z.u x]] w fun e w' => ∃ v, e = .returned v ∧ ∃ (q : Int) (c1 : List Gs.Cell) (cur1 : Int) (ins1 : Bool), v = Z.i q ∧ Gs.Pw r c n c1 cur1 ∧ Gs.ER k q cs c1 cur cur1 ∧ Z.h w' bp #[Z.i r, Z.i c, .slice A n cp, Z.i cur1] 91 ∧ Own B0 w' 37 5 (.slice A n cp) (rows Gs.cv c1) ∧ Z.h w' bk #[Z.p bs, Z.i st, Z.i why, Z.i tn, .bool ins1, Z.u last] 95 ∧ aA (fun k => (aH (.slice A n cp) k ∨ k = bp) ∨ k = bk) w w' := by
 refine F52.calls ?_
 unfold F52
 obtain ⟨hn, hcw, hcu, hp, hN, hb⟩ := id hW; have hrc := hW.rc
 have hF : aA (fun k => (aH (.slice A n cp) k ∨ k = bp) ∨ k = bk) w w := Fr.refl _ _ _
 refine Z.x (#[Z.i k, Z.u x]) (fun b1 w1 e1 ah _ U1 => ?_)
 refine dw ?_
 refine Z.f 0 ?_
 replace aG := U1.af aG
 refine Z.l aG ?_
 replace ay := U1.af ay
 refine aB (jH ay) (fun w2 U2 => ?_)
 refine bM (fun g w' => ∃ (c1 : List Gs.Cell) (cur1 : Int) (ins1 : Bool), (Own B0 w' 37 5 (.slice A n cp) (rows Gs.cv c1)) ∧ (Z.h w' bp #[Z.i r, Z.i c, .slice A n cp, Z.i cur1] 91) ∧ (Z.h w' bk #[Z.p bs, Z.i st, Z.i why, Z.i tn, .bool ins1, Z.u last] 95) ∧ (Gs.Pw r c n c1 cur1) ∧ (Gs.ER k 0 cs c1 cur cur1) ∧ (aA (fun k => (aH (.slice A n cp) k ∨ k = bp) ∨ k = bk) w w')) (fun J1 hJ1 => ?_) (fun gJ1 jT hI => ?_)
 refine Z.f 0 ?_
 replace ah := U2.af ah
 refine Z.l ah ?_
 refine az (cZ _ _ _ _ _) (fun h3 => ?_) (fun h3 => ?_)
 refine aJ ?_
 refine dS (S := no) (fun w4 U4 => ?_)
 refine Z.g 1 ?_
 replace ah := U4.af ah
 refine Z.m ah ?_
 refine fV ?_
 refine Z.g 4 ?_
 replace aG := U4.af (U2.af aG)
 refine Z.m aG ?_
 refine aI (fun w5 U5 => ?_)
 replace ae := (((ae.ai U1).ai U2).ai U4).ai U5
 replace ag := U5.af (U4.af (U2.af (U1.af ag)))
 refine aN (BK ag ae hW (x := x) (ins := ins) hxb) (fun v6 w6 D6 => ?_)
 obtain ⟨e22, c1, cur1, rfl, hW1, hm22, M6, N6, U6⟩ := D6
 have aK := ae
 replace ae := N6
 replace aG := U5.af aG
 replace aG := U6.get aG (fun hs => Or.elim (show aH _ _ ∨ _ = _ from hs) (fun h => Own.aS aK aG (by decide) _ h rfl) (fun hb => absurd hb (by exact dW (by assumption) (by assumption) (by decide))))
 replace ag := M6
 replace hF := (((hF.go0 U1).go0 U2).go0 U4).go0 U5
 replace hF := hF.go U6 (fun i h hs => Or.elim (show aH _ _ ∨ _ = _ from hs) (fun hs => .inl (.inl hs)) (fun hb => by (subst hb; omega)))
 clear aK
 refine aI (fun w7 U7 => ?_)
 replace ae := ae.ai U7
 replace aG := U7.af aG
 replace ag := U7.af ag
 replace hF := hF.go0 U7
 exact ⟨_, rfl, _, _, _, _, rfl, hW1, .inl ⟨by omega, (by exact hm22)⟩, ag, ae, aG, hF⟩
 refine aC ?_
 refine az (cZ _ _ _ _ _) (fun h9 => ?_) (fun h9 => ?_)
 refine aJ ?_
 replace ae := (ae.ai U1).ai U2
 replace ag := U2.af (U1.af ag)
 refine aN (SK ag ae hW) (fun v10 w10 D10 => ?_)
 obtain ⟨e26, c1, cur1, rfl, hW1, hm26, M10, N10, aY⟩ := D10
 have aK := ae
 replace ae := N10
 replace aG := U2.af aG
 replace aG := aY.get aG (fun hs => Or.elim (show aH _ _ ∨ _ = _ from hs) (fun h => Own.aS aK aG (by decide) _ h rfl) (fun hb => absurd hb (by exact dW (by assumption) (by assumption) (by decide))))
 replace ag := M10
 replace hF := (hF.go0 U1).go0 U2
 replace hF := hF.go aY (fun i h hs => Or.elim (show aH _ _ ∨ _ = _ from hs) (fun hs => .inl (.inl hs)) (fun hb => by (subst hb; omega)))
 clear aK
 exact ⟨_, rfl, _, _, _, _, rfl, hW1, .inl ⟨by omega, (by exact hm26)⟩, ag, ae, aG, hF⟩
 refine aC ?_
 refine az (cZ _ _ _ _ _) (fun h12 => ?_) (fun h12 => ?_)
 refine aJ ?_
 replace ae := (ae.ai U1).ai U2
 replace ag := U2.af (U1.af ag)
 refine aN (Vs ag ae hW) (fun v13 vY D13 => ?_)
 obtain ⟨q30, cs, cur, rfl, hW, M13, N13, dI⟩ := D13
 obtain ⟨hn, hcw, hcu, hp, hN, hb⟩ := id hW
 have aK := ae
 replace ae := N13
 replace aG := U2.af aG
 replace aG := dI.get aG (fun hs => Or.elim (show aH _ _ ∨ _ = _ from hs) (fun h => Own.aS aK aG (by decide) _ h rfl) (fun hb => absurd hb (by exact dW (by assumption) (by assumption) (by decide))))
 replace ag := M13
 replace hF := (hF.go0 U1).go0 U2
 replace hF := hF.go dI (fun i h hs => Or.elim (show aH _ _ ∨ _ = _ from hs) (fun hs => .inl (.inl hs)) (fun hb => by (subst hb; omega)))
 clear aK
 refine hJ1 _ _ ?_
 exact ⟨_, _, _, ae, ag, aG, hW, (.inr (.inl ⟨by assumption, rfl⟩)), hF⟩
 refine aC ?_
 refine az (cZ _ _ _ _ _) (fun h14 => ?_) (fun h14 => ?_)
 refine aJ ?_
 replace ae := (ae.ai U1).ai U2
 replace ag := U2.af (U1.af ag)
 refine aN (L8 ag ae hW) (fun v15 uG D15 => ?_)
 obtain ⟨e34, c1, cur1, rfl, hW1, hm34, M15, N15, bW⟩ := D15
 have aK := ae
 replace ae := N15
 replace aG := U2.af aG
 replace aG := bW.get aG (fun hs => Or.elim (show aH _ _ ∨ _ = _ from hs) (fun h => Own.aS aK aG (by decide) _ h rfl) (fun hb => absurd hb (by exact dW (by assumption) (by assumption) (by decide))))
 replace ag := M15
 replace hF := (hF.go0 U1).go0 U2
 replace hF := hF.go bW (fun i h hs => Or.elim (show aH _ _ ∨ _ = _ from hs) (fun hs => .inl (.inl hs)) (fun hb => by (subst hb; omega)))
 clear aK
 exact ⟨_, rfl, _, _, _, _, rfl, hW1, .inl ⟨by omega, (by exact hm34)⟩, ag, ae, aG, hF⟩
 refine aC ?_
 refine az (cZ _ _ _ _ _) (fun h17 => ?_) (fun h17 => ?_)
 refine aJ ?_
 refine dw ?_
 refine Z.f 4 ?_
 replace aG := U2.af aG
 refine Z.l aG ?_
 refine ak (Ac _) ?_
 refine dw ?_
 refine Z.f 4 ?_
 refine Z.s aG (fun xx aG _ dM => ?_)
 replace ae := (ae.ai U1).ai U2
 replace ae := ae.aF dM (Own.aS ae (by assumption) (by decide))
 replace ag := U2.af (U1.af ag)
 replace ag := dM.aj ag (by exact dW (by assumption) (by assumption) (by decide))
 replace hF := (hF.go0 U1).go0 U2
 replace hF := hF.go dM (fun i _ h => .inr h)
 refine hJ1 _ _ ?_
 exact ⟨_, _, _, ae, ag, aG, hW, (.inr (.inr ⟨by omega, rfl, rfl, rfl⟩)), hF⟩
 refine aC ?_
 refine az (cZ _ _ _ _ _) (fun h19 => ?_) (fun h19 => ?_)
 refine aJ ?_
 refine dw ?_
 refine Z.f 4 ?_
 replace aG := U2.af aG
 refine Z.l aG ?_
 replace ae := (ae.ai U1).ai U2
 replace ag := U2.af (U1.af ag)
 refine aN (SL ag ae hW (ins := ins)) (fun v20 xu D20 => ?_)
 obtain ⟨e52, c1, cur1, rfl, hW1, hm52, M20, N20, dR⟩ := D20
 have aK := ae
 replace ae := N20
 replace aG := dR.get aG (fun hs => Or.elim (show aH _ _ ∨ _ = _ from hs) (fun h => Own.aS aK aG (by decide) _ h rfl) (fun hb => absurd hb (by exact dW (by assumption) (by assumption) (by decide))))
 replace ag := M20
 replace hF := (hF.go0 U1).go0 U2
 replace hF := hF.go dR (fun i h hs => Or.elim (show aH _ _ ∨ _ = _ from hs) (fun hs => .inl (.inl hs)) (fun hb => by (subst hb; omega)))
 clear aK
 exact ⟨_, rfl, _, _, _, _, rfl, hW1, .inl ⟨by omega, (by exact hm52)⟩, ag, ae, aG, hF⟩
 refine aC ?_
 refine az (cZ _ _ _ _ _) (fun h22 => ?_) (fun h22 => ?_)
 refine aJ ?_
 refine dw ?_
 refine Z.f 4 ?_
 replace aG := U2.af aG
 refine Z.l aG ?_
 replace ae := (ae.ai U1).ai U2
 replace ag := U2.af (U1.af ag)
 refine aN (QF ag ae hW (ins := ins)) (fun v23 Eu D23 => ?_)
 obtain ⟨e60, c1, cur1, rfl, hW1, hm60, M23, N23, iZ⟩ := D23
 have aK := ae
 replace ae := N23
 replace aG := iZ.get aG (fun hs => Or.elim (show aH _ _ ∨ _ = _ from hs) (fun h => Own.aS aK aG (by decide) _ h rfl) (fun hb => absurd hb (by exact dW (by assumption) (by assumption) (by decide))))
 replace ag := M23
 replace hF := (hF.go0 U1).go0 U2
 replace hF := hF.go iZ (fun i h hs => Or.elim (show aH _ _ ∨ _ = _ from hs) (fun hs => .inl (.inl hs)) (fun hb => by (subst hb; omega)))
 clear aK
 exact ⟨_, rfl, _, _, _, _, rfl, hW1, .inl ⟨by omega, (by exact hm60)⟩, ag, ae, aG, hF⟩
 refine aC ?_
 refine hJ1 _ _ ?_
 replace ae := (ae.ai U1).ai U2
 replace ag := U2.af (U1.af ag)
 replace hF := (hF.go0 U1).go0 U2
 replace aG := U2.af aG
 exact ⟨_, _, _, ae, ag, aG, hW, (.inr (.inr ⟨by omega, rfl, rfl, rfl⟩)), hF⟩
 replace ae := (ae.ai U1).ai U2
 replace ag := U2.af (U1.af ag)
 replace hF := (hF.go0 U1).go0 U2
 replace aG := U2.af aG
 obtain ⟨c1, cur1, ins1, ae, ag, aG, hW1, her, hF⟩ := hI
 exact ⟨_, rfl, _, _, _, _, rfl, hW1, her, ag, ae, aG, hF⟩
theorem BP {r c cur : Int} {A : Option Addr} {n cp bp B0 : Nat} {cs : List Gs.Cell} {bk bs : Nat} {st why tn last : Int} {ins : Bool} {r0 c0 r1 c1 wh : Int} {w : World} (ag : Z.h w bp #[Z.i r, Z.i c, .slice A n cp, Z.i cur] 91) (ae : Own B0 w 37 5 (.slice A n cp) (rows Gs.cv cs)) (hW : Gs.Pw r c n cs cur) (aG : Z.h w bk #[Z.p bs, Z.i st, Z.i why, Z.i tn, .bool ins, Z.u last] 95) (ay : Z.h w bs #[Z.i r0, Z.i c0, Z.i r1, Z.i c1, Z.i wh, Z.p bp] 89) {k x : Int} (hxb : 0 ≤ x ∧ x ≤ 255) (hk17 : k ≠ 17) (hst : 1 ≤ st ∧ st ≤ 3)  :
    oX 18 #[Z.p bk, .agg #[Z.i k, Z.u x]] w fun e w' => ∃ v, e = .returned v ∧ ∃ (e st' why' tn' : Int) (ins' : Bool) (c1 : List Gs.Cell) (cur1 : Int), v = .tuple #[.bool false, Z.i e] ∧ (1 ≤ st' ∧ st' ≤ 3) ∧ Gs.Pw r c n c1 cur1 ∧ Gs.PR k e st cs c1 cur ∧ Z.h w' bp #[Z.i r, Z.i c, .slice A n cp, Z.i cur1] 91 ∧ Own B0 w' 37 5 (.slice A n cp) (rows Gs.cv c1) ∧ Z.h w' bk #[Z.p bs, Z.i st', Z.i why', Z.i tn', .bool ins', Z.u last] 95 ∧ aA (fun k => (aH (.slice A n cp) k ∨ k = bp) ∨ k = bk) w w' := by
 refine Wi.calls ?_
 unfold Wi
 obtain ⟨hn, hcw, hcu, hp, hN, hb⟩ := id hW; have hrc := hW.rc
 have hF : aA (fun k => (aH (.slice A n cp) k ∨ k = bp) ∨ k = bk) w w := Fr.refl _ _ _
 refine Z.x (#[Z.i k, Z.u x]) (fun b1 w1 e1 ah _ U1 => ?_)
 have kX : bp ≠ b1 := by have := au ag; omega
 refine Z.f 0 ?_
 refine Z.l ah ?_
 refine az (cZ _ _ _ _ _) (fun h2 => ?_) (fun h2 => ?_)
 refine aJ ?_
 refine dw ?_
 refine Z.f 1 ?_
 replace aG := U1.af aG
 refine aN (QG aG hst) (fun v3 w3 D3 => ?_)
 obtain ⟨q13, st1, why1, tn1, rfl, hst1, N3, U3⟩ := D3
 replace ae := ae.ai U1
 replace ae := ae.aF U3 (Own.aS ae (by assumption) (by decide))
 replace ag := U1.af ag
 replace ag := U3.aj ag (by exact dW (by assumption) (by assumption) (by decide))
 replace aG := N3
 replace hF := hF.go0 U1
 replace hF := hF.go U3 (fun i _ h => .inr h)
 refine dw ?_
 refine Z.f 4 ?_
 refine Z.s aG (fun w4 aG _ U4 => ?_)
 replace ae := ae.aF U4 (Own.aS ae (by assumption) (by decide))
 replace ag := U4.aj ag (by exact dW (by assumption) (by assumption) (by decide))
 replace hF := hF.go U4 (fun i _ h => .inr h)
 exact ⟨_, rfl, _, _, _, _, _, _, _, rfl, hst1, hW, Gs.PR.keep (by omega), ag, ae, aG, hF⟩
 refine aC ?_
 refine dw ?_
 refine Z.f 1 ?_
 replace aG := U1.af aG
 refine aB (qf aG) (fun w6 U6 => ?_)
 obtain ⟨em, hem⟩ : ∃ em : Int, em = (if st = 1 then 0 else 40) := ⟨_, rfl⟩
 rw [← hem]
 have hem2 : (em = 0 → st = 1) ∧ (st = 1 → em = 0) := by subst hem; split <;> omega
 clear hem
 refine az (kR _ _ _ _ _) (fun h7 => ?_) (fun h7 => ?_)
 refine aJ ?_
 replace ae := (ae.ai U1).ai U6
 replace ag := U6.af (U1.af ag)
 replace hF := (hF.go0 U1).go0 U6
 replace aG := U6.af aG
 exact ⟨_, rfl, _, _, _, _, _, _, _, rfl, hst, hW, Gs.PR.keep (by omega), ag, ae, aG, hF⟩
 refine aC ?_
 replace ah := U6.af ah
 refine Z.b 2 (#[Z.i k, Z.u x]) ah ?_
 refine dQ (Me hxb) (fun w9 U9 h9 => ?_) (fun w9 U9 h9 => ?_)
 simp only [Z.d, Z.c] at h9
 refine ak (lV) ?_
 refine aC ?_
 refine Z.f 0 ?_
 replace ah := U9.af ah
 refine Z.l ah ?_
 refine ny (cZ _ _ _ _ _) (hk17) ?_
 refine aC ?_
 refine dS (S := no) (fun w10 aY => ?_)
 refine fV ?_
 refine Z.g 0 ?_
 replace aG := aY.af (U9.af (U6.af aG))
 refine bJ (fun w' hw' => by have aG := (Fr.jg hw').af aG; exact (kZ (by kernel_rfl) aG (by rfl))) ?_
 refine Z.g 0 ?_
 replace ah := aY.af ah
 refine Z.m ah ?_
 refine aI (fun nR bK => ?_)
 refine jm ?_
 replace ay := bK.af (aY.af (U9.af (U6.af (U1.af ay))))
 refine aB (jH ay) (fun w12 di => ?_)
 refine ⟨di, ?_⟩
 refine aI (fun vY dI => ?_)
 replace ae := ((((((ae.ai U1).ai U6).ai U9).ai aY).ai bK).ai di).ai dI
 replace ag := dI.af (di.af (bK.af (aY.af (U9.af (U6.af (U1.af ag))))))
 refine aN (Yk ag ae hW (k := k)) (fun v14 sO D14 => ?_)
 obtain ⟨q47, cur1, rfl, hW1, hy47, hz47, N14, dC⟩ := D14
 replace ae := ae.aF dC (Own.aS ae (by assumption) (by decide))
 replace aG := dI.af (di.af (bK.af aG))
 replace aG := dC.aj aG (by exact dW (by assumption) (by assumption) (by decide))
 replace ay := dI.af (di.af ay)
 replace ay := dC.aj ay (by exact dW (by assumption) (by assumption) (by decide))
 replace ag := N14
 replace hF := ((((((hF.go0 U1).go0 U6).go0 U9).go0 aY).go0 bK).go0 di).go0 dI
 replace hF := hF.go dC (fun i _ h => .inl (.inr h))
 refine aI (fun uG bW => ?_)
 refine jQ (fun h16 => ?_) (fun h16 => ?_)
 replace ae := ae.ai bW
 replace aG := bW.af aG
 replace ag := bW.af ag
 replace hF := hF.go0 bW
 exact ⟨_, rfl, _, _, _, _, _, _, _, rfl, hst, hW1, Gs.PR.keep (by have := hy47 (by assumption); omega), ag, ae, aG, hF⟩
 refine dS (S := (fun k => (aH (.slice A n cp) k ∨ k = bp) ∨ k = bk)) (fun xx dM => ?_)
 refine fV ?_
 refine Z.g 1 ?_
 obtain ⟨rfl, hk9⟩ := hz47 (by assumption)
 replace ah := dM.af (bW.af (dC.aj (dI.af (di.af (bK.af ah))) (Ne.symm kX)))
 refine bJ (fun w' hw' => by have ah := (Fr.jg hw').af ah; exact (Bv (n := 2) (cs' := #[Z.i k, Z.u x]) (by kernel_rfl) ah (Nat.le_of_ble_eq_true rfl) (by rfl))) ?_
 refine aI (fun Ar fC => ?_)
 refine jm ?_
 replace ae := ((ae.ai bW).ai dM).ai fC
 replace aG := fC.af (dM.af (bW.af aG))
 replace ay := fC.af (dM.af (bW.af ay))
 replace ag := fC.af (dM.af (bW.af ag))
 refine aN (Yl ag ae hW aG ay hxb) (fun v20 xu D20 => ?_)
 replace hF := ((hF.go0 bW).go0 dM).go0 fC
 have qF20 := hF.size
 obtain ⟨q53, c1, cur1, ins1, rfl, hW1, her53, ag, ae, aG, dR⟩ := D20
 replace hF := hF.go dR (fun i hi hs => by exact hs)
 refine ⟨dR, ?_⟩
 refine aI (fun Dc dV => ?_)
 replace aG := dV.af aG
 refine aN (SQ aG (hem2.1 (Classical.not_not.1 (by assumption)))) (fun v22 Ht D22 => ?_)
 obtain ⟨rfl, st1, why1, tn1, hst1, N22, gQ⟩ := D22
 replace ae := ae.ai dV
 replace ae := ae.aF gQ (Own.aS ae (by assumption) (by decide))
 replace ag := dV.af ag
 replace ag := gQ.aj ag (by exact dW (by assumption) (by assumption) (by decide))
 replace aG := N22
 replace hF := hF.go0 dV
 replace hF := hF.go gQ (fun i _ h => .inr h)
 refine aI (fun Eu iZ => ?_)
 replace ae := ae.ai iZ
 replace aG := iZ.af aG
 replace ag := iZ.af ag
 replace hF := hF.go0 iZ
 exact ⟨_, rfl, _, _, _, _, _, _, _, rfl, hst1, hW1, her53.pr, ag, ae, aG, hF⟩
 simp only [Z.d, Z.c] at h9
 refine ak (nI) ?_
 refine aJ ?_
 replace ae := ((ae.ai U1).ai U6).ai U9
 replace ag := U9.af (U6.af (U1.af ag))
 replace hF := ((hF.go0 U1).go0 U6).go0 U9
 replace aG := U9.af (U6.af aG)
 exact ⟨_, rfl, _, _, _, _, _, _, _, rfl, hst, hW, Gs.PR.keep (by omega), ag, ae, aG, hF⟩
theorem Ug {s : Gs.iL} {pv : Option Addr} {bs : Nat} {w : World} (ay : Z.h w bs #[Z.i s.r0, Z.i s.c0, Z.i s.r1, Z.i s.c1, Z.i s.wh, .pointer pv] 89) (hz0 : Gs.aZ s.r0 s.c0 ≠ 0) (hz1 : Gs.aZ s.r1 s.c1 ≠ 0) :
    oX 44 #[Z.p bs] w fun e w' => ∃ v, e = .returned v ∧ ∃ bp g, Z.h w' bs #[Z.i (Gs.bP s 0).r0, Z.i (Gs.bP s 0).c0, Z.i (Gs.bP s 0).r1, Z.i (Gs.bP s 0).c1, Z.i (Gs.bP s 0).wh, Z.p bp] 89 ∧ w.heap.size ≤ bp ∧ Z.h w' bp #[Z.i (Gs.bP s 0).r, Z.i (Gs.bP s 0).c, .slice (some ⟨g, 0, none⟩) (Gs.bP s 0).cs.length (Gs.bP s 0).cs.length, Z.i (Gs.bP s 0).cur] 91 ∧ Own w.heap.size w' 37 5 (.slice (some ⟨g, 0, none⟩) (Gs.bP s 0).cs.length (Gs.bP s 0).cs.length) (rows Gs.cv (Gs.bP s 0).cs) ∧ aA (· = bs) w w' := by
 refine Wn.calls ?_
 unfold Wn
 have hF : aA (· = bs) w w := Fr.refl _ _ _
 refine aN (Ag ay hz0 hz1) (fun v1 w1 D1 => ?_)
 obtain ⟨bp, g, N1, gbp, ag, ae, U1⟩ := D1
 have qJ : w.heap.size ≤ bp := by have := hF.size; omega
 replace ae := ae.mono (B' := w.heap.size) hF.size
 replace ay := N1
 replace hF := hF.go U1 (fun i _ h => h)
 exact ⟨_, rfl, bp, g, ay, qJ, ag, ae, hF⟩
theorem Z9 {s : Gs.iL} {A : Option Addr} {n cp bp bs B0 : Nat} {bk : Nat} {st why tn last : Int} {ins : Bool} {w : World} (ay : Z.h w bs #[Z.i s.r0, Z.i s.c0, Z.i s.r1, Z.i s.c1, Z.i s.wh, Z.p bp] 89) (ag : Z.h w bp #[Z.i s.r, Z.i s.c, .slice A n cp, Z.i s.cur] 91) (ae : Own B0 w 37 5 (.slice A n cp) (rows Gs.cv s.cs)) (hS : Gs.Sw n s) (hB0 : B0 ≤ w.heap.size) (aG : Z.h w bk #[Z.p bs, Z.i st, Z.i why, Z.i tn, .bool ins, Z.u last] 95) {x : Int} (hst : st = 1) :
    oX 49 #[Z.p bk, Z.u x] w fun e w' => ∃ v, e = .returned v ∧ v = .tuple #[.bool true, Z.i 0] ∧ ∃ t' : Int, Z.h w' bk #[Z.p bs, Z.i 2, Z.i 0, Z.i t', .bool false, Z.u x] 95 ∧ ∃ (bp' : Nat) (A' : Option Addr) (n' cp' : Nat), Z.h w' bs #[Z.i (if x = 109 then Gs.bP s 0 else s).r0, Z.i (if x = 109 then Gs.bP s 0 else s).c0, Z.i (if x = 109 then Gs.bP s 0 else s).r1, Z.i (if x = 109 then Gs.bP s 0 else s).c1, Z.i (if x = 109 then Gs.bP s 0 else s).wh, Z.p bp'] 89 ∧ Z.h w' bp' #[Z.i (if x = 109 then Gs.bP s 0 else s).r, Z.i (if x = 109 then Gs.bP s 0 else s).c, .slice A' n' cp', Z.i (if x = 109 then Gs.bP s 0 else s).cur] 91 ∧ Own B0 w' 37 5 (.slice A' n' cp') (rows Gs.cv (if x = 109 then Gs.bP s 0 else s).cs) ∧ n' = (if x = 109 then Gs.bP s 0 else s).cs.length ∧ (bp' = bp ∨ w.heap.size ≤ bp') ∧ (∀ k, aH (.slice A' n' cp') k → aH (.slice A n cp) k ∨ w.heap.size ≤ k) ∧ aA (fun k => ((aH (.slice A n cp) k ∨ k = bp) ∨ k = bs) ∨ k = bk) w w' := by
 refine F49.calls ?_
 unfold F49
 have hW := hS.2
 obtain ⟨hn, hcw, hcu, hp, hN, hb⟩ := id hW
 have hF : aA (fun k => ((aH (.slice A n cp) k ∨ k = bp) ∨ k = bs) ∨ k = bk) w w := Fr.refl _ _ _
 refine dw ?_
 refine Z.f 1 ?_
 refine aN (VH aG hst) (fun v1 w1 D1 => ?_)
 obtain ⟨rfl, t10, N1, U1⟩ := D1
 replace ae := ae.aF U1 (Own.aS ae (by assumption) (by decide))
 replace ay := U1.aj ay (by exact dW (by assumption) (by assumption) (by decide))
 replace ag := U1.aj ag (by exact dW (by assumption) (by assumption) (by decide))
 replace aG := N1
 replace hF := hF.go U1 (fun i _ h => .inr h)
 refine ny (kR _ _ _ _ _) (fun h => h rfl) ?_
 refine aC ?_
 refine dw ?_
 refine Z.f 4 ?_
 refine Z.s aG (fun w2 aG _ U2 => ?_)
 replace ae := ae.aF U2 (Own.aS ae (by assumption) (by decide))
 replace ay := U2.aj ay (by exact dW (by assumption) (by assumption) (by decide))
 replace ag := U2.aj ag (by exact dW (by assumption) (by assumption) (by decide))
 replace hF := hF.go U2 (fun i _ h => .inr h)
 refine dw ?_
 refine Z.f 5 ?_
 refine Z.s aG (fun w3 aG _ U3 => ?_)
 replace ae := ae.aF U3 (Own.aS ae (by assumption) (by decide))
 replace ay := U3.aj ay (by exact dW (by assumption) (by assumption) (by decide))
 replace ag := U3.aj ag (by exact dW (by assumption) (by assumption) (by decide))
 replace hF := hF.go U3 (fun i _ h => .inr h)
 refine bM (fun g w' => ∃ (bp1 : Nat) (A1 : Option Addr) (n1 : Nat) (cp1 : Nat), (Z.h w' bk #[Z.p bs, Z.i 2, Z.i 0, Z.i t10, .bool false, Z.u x] 95) ∧ (Z.h w' bs #[Z.i (if x = 109 then Gs.bP s 0 else s).r0, Z.i (if x = 109 then Gs.bP s 0 else s).c0, Z.i (if x = 109 then Gs.bP s 0 else s).r1, Z.i (if x = 109 then Gs.bP s 0 else s).c1, Z.i (if x = 109 then Gs.bP s 0 else s).wh, Z.p bp1] 89) ∧ (Z.h w' bp1 #[Z.i (if x = 109 then Gs.bP s 0 else s).r, Z.i (if x = 109 then Gs.bP s 0 else s).c, .slice A1 n1 cp1, Z.i (if x = 109 then Gs.bP s 0 else s).cur] 91) ∧ (Own B0 w' 37 5 (.slice A1 n1 cp1) (rows Gs.cv (if x = 109 then Gs.bP s 0 else s).cs)) ∧ (n1 = (if x = 109 then Gs.bP s 0 else s).cs.length) ∧ (bp1 = bp ∨ w.heap.size ≤ bp1) ∧ (∀ k, aH (.slice A1 n1 cp1) k → aH (.slice A n cp) k ∨ w.heap.size ≤ k) ∧ (aA (fun k => ((aH (.slice A n cp) k ∨ k = bp) ∨ k = bs) ∨ k = bk) w w')) (fun J1 hJ1 => ?_) (fun gJ1 jT hI => ?_)
 refine az (cZ _ _ _ _ _) (fun h4 => ?_) (fun h4 => ?_)
 refine aJ ?_
 refine dw ?_
 refine Z.f 0 ?_
 refine Z.l aG ?_
 refine aN (Ug ay hS.1.1 hS.1.2) (fun v5 w5 D5 => ?_)
 obtain ⟨bp2, g2, N5, gbp2, tZ, jK, U5⟩ := D5
 have CB : w.heap.size ≤ bp2 := by have := hF.size; omega
 replace jK := jK.mono (B' := w.heap.size) hF.size
 replace aG := U5.aj aG (by exact dW (by assumption) (by assumption) (by decide))
 replace ay := N5
 replace hF := hF.go U5 (fun i _ h => .inl (.inr h))
 refine hJ1 _ _ ?_
 rw [show (if x = 109 then Gs.bP s 0 else s) = Gs.bP s 0 from if_pos (by assumption)]; exact ⟨bp2, some ⟨g2, 0, none⟩, _, _, aG, ay, tZ, jK.mono hB0, rfl, .inr CB, (fun k hk => .inr (Own.ge jK hk).1), hF⟩
 refine aC ?_
 refine hJ1 _ _ ?_
 rw [show (if x = 109 then Gs.bP s 0 else s) = s from if_neg (by assumption)]; exact ⟨bp, A, n, cp, aG, ay, ag, ae, hn, .inl rfl, (fun k hk => .inl hk), hF⟩
 obtain ⟨bp1, A1, n1, cp1, aG, ay, ag, ae, hn1, hbp1, hov1, hF⟩ := hI
 exact ⟨_, rfl, rfl, _, aG, bp1, A1, n1, cp1, ay, ag, ae, hn1, hbp1, hov1, hF⟩
theorem PW {bk bs : Nat} {st why tn last : Int} {ins : Bool} {q : Gs.vJ} {w : World} (aG : Z.h w bk #[Z.p bs, Z.i st, Z.i why, Z.i tn, .bool ins, Z.u last] 95) (hst : 1 ≤ st ∧ st ≤ 3)  :
    oX 26 #[Z.p bk, .agg (Gs.re q).toArray] w fun e w' => ∃ v, e = .returned v ∧ ∃ (st' why' tn' last' : Int) (ins' : Bool), Z.h w' bk #[Z.p bs, Z.i st', Z.i why', Z.i tn', .bool ins', Z.u last'] 95 ∧ (1 ≤ st' ∧ st' ≤ 3) ∧ (q.rs = true → st' = 1 ∧ ins' = false) ∧ (q.rs = false → st' = st ∧ ins' = ins) ∧ aA (· = bk) w w' := by
 refine F26.calls ?_
 unfold F26
 have hF : aA (· = bk) w w := Fr.refl _ _ _
 refine Z.x ((Gs.re q).toArray) (fun b1 w1 e1 ah _ U1 => ?_)
 refine Z.f 1 ?_
 refine pK (kZ (by kernel_rfl) ah (by rfl)) (fun h2 => ?_) (fun h2 => ?_)
 refine aJ ?_
 refine dw ?_
 refine Z.f 1 ?_
 replace aG := U1.af aG
 refine aN (Md aG hst) (fun v3 w3 D3 => ?_)
 obtain ⟨q9, why1, tn1, rfl, N3, U3⟩ := D3
 replace aG := N3
 replace hF := hF.go0 U1
 replace hF := hF.go U3 (fun i _ h => h)
 refine dw ?_
 refine Z.f 4 ?_
 refine Z.s aG (fun w4 aG _ U4 => ?_)
 replace hF := hF.go U4 (fun i _ h => h)
 refine dw ?_
 refine Z.f 5 ?_
 refine Z.s aG (fun w5 aG _ U5 => ?_)
 replace hF := hF.go U5 (fun i _ h => h)
 exact ⟨_, rfl, _, _, _, _, _, aG, (by decide : (1 : Int) ≤ 1 ∧ (1 : Int) ≤ 3), (fun _ => ⟨rfl, rfl⟩), (fun h => by simp_all), hF⟩
 refine aC ?_
 replace aG := U1.af aG
 replace hF := hF.go0 U1
 exact ⟨_, rfl, _, _, _, _, _, aG, hst, (fun h => by simp_all), (fun _ => ⟨rfl, rfl⟩), hF⟩
theorem adI {s : Gs.iL} {A : Option Addr} {n cp bp bs B0 : Nat} {bk : Nat} {st why tn last : Int} {ins : Bool} {w : World} (ay : Z.h w bs #[Z.i s.r0, Z.i s.c0, Z.i s.r1, Z.i s.c1, Z.i s.wh, Z.p bp] 89) (ag : Z.h w bp #[Z.i s.r, Z.i s.c, .slice A n cp, Z.i s.cur] 91) (ae : Own B0 w 37 5 (.slice A n cp) (rows Gs.cv s.cs)) (hS : Gs.Sw n s) (hB0 : B0 ≤ w.heap.size) (aG : Z.h w bk #[Z.p bs, Z.i st, Z.i why, Z.i tn, .bool ins, Z.u last] 95) {x : Int} (hxb : 0 ≤ x ∧ x ≤ 255) :
    oX 18 #[Z.p bk, .agg #[Z.i 17, Z.u x]] w fun e w' => ∃ v, e = .returned v ∧ ∃ (q : Bool) (e st' why' tn' last' : Int) (ins' : Bool), v = .tuple #[.bool q, Z.i e] ∧ ((q = true ∧ e = 0 ∧ st = 1 ∧ ¬ Gs.y9 x = ⟨#[]⟩ ∧ st' = 2 ∧ ins' = false ∧ last' = x) ∨ (q = false ∧ ¬ e = 0 ∧ st' = st ∧ ins' = ins ∧ last' = last ∧ ¬ (st = 1 ∧ ¬ Gs.y9 x = ⟨#[]⟩))) ∧ Z.h w' bk #[Z.p bs, Z.i st', Z.i why', Z.i tn', .bool ins', Z.u last'] 95 ∧ ∃ (bp' : Nat) (A' : Option Addr) (n' cp' : Nat), Z.h w' bs #[Z.i (if q = true ∧ x = 109 then Gs.bP s 0 else s).r0, Z.i (if q = true ∧ x = 109 then Gs.bP s 0 else s).c0, Z.i (if q = true ∧ x = 109 then Gs.bP s 0 else s).r1, Z.i (if q = true ∧ x = 109 then Gs.bP s 0 else s).c1, Z.i (if q = true ∧ x = 109 then Gs.bP s 0 else s).wh, Z.p bp'] 89 ∧ Z.h w' bp' #[Z.i (if q = true ∧ x = 109 then Gs.bP s 0 else s).r, Z.i (if q = true ∧ x = 109 then Gs.bP s 0 else s).c, .slice A' n' cp', Z.i (if q = true ∧ x = 109 then Gs.bP s 0 else s).cur] 91 ∧ Own B0 w' 37 5 (.slice A' n' cp') (rows Gs.cv (if q = true ∧ x = 109 then Gs.bP s 0 else s).cs) ∧ n' = (if q = true ∧ x = 109 then Gs.bP s 0 else s).cs.length ∧ (bp' = bp ∨ w.heap.size ≤ bp') ∧ (∀ k, aH (.slice A' n' cp') k → aH (.slice A n cp) k ∨ w.heap.size ≤ k) ∧ aA (fun k => ((aH (.slice A n cp) k ∨ k = bp) ∨ k = bs) ∨ k = bk) w w' := by
 refine Wi.calls ?_
 unfold Wi
 have hW := hS.2
 obtain ⟨hn, hcw, hcu, hp, hN, hb⟩ := id hW
 have hF : aA (fun k => ((aH (.slice A n cp) k ∨ k = bp) ∨ k = bs) ∨ k = bk) w w := Fr.refl _ _ _
 refine Z.x (#[Z.i 17, Z.u x]) (fun b1 w1 e1 ah _ U1 => ?_)
 refine Z.f 0 ?_
 refine Z.l ah ?_
 refine ny (cZ _ _ _ _ _) (by decide) ?_
 refine aC ?_
 refine dw ?_
 refine Z.f 1 ?_
 replace aG := U1.af aG
 refine aB (qf aG) (fun w2 U2 => ?_)
 obtain ⟨em, hem⟩ : ∃ em : Int, em = (if st = 1 then 0 else 40) := ⟨_, rfl⟩
 rw [← hem]
 have hem2 : (em = 0 → st = 1) ∧ (st = 1 → em = 0) := by subst hem; split <;> omega
 clear hem
 refine az (kR _ _ _ _ _) (fun h3 => ?_) (fun h3 => ?_)
 refine aJ ?_
 have e1 : (if (true : Bool) = true ∧ x = 109 then Gs.bP s 0 else s) = (if x = 109 then Gs.bP s 0 else s) := by simp
 have e0 : (if (false : Bool) = true ∧ x = 109 then Gs.bP s 0 else s) = s := by simp
 replace ae := (ae.ai U1).ai U2
 replace ay := U2.af (U1.af ay)
 replace ag := U2.af (U1.af ag)
 replace hF := (hF.go0 U1).go0 U2
 replace aG := U2.af aG
 exact ⟨_, rfl, false, _, st, why, tn, last, ins, rfl, .inr ⟨rfl, (by assumption), rfl, rfl, rfl, (fun hq => by (have := hem2.2 hq.1; omega))⟩, aG, bp, A, n, cp, (by rw [e0]; exact ay), (by rw [e0]; exact ag), (by rw [e0]; exact ae), (by rw [e0]; exact hn), .inl rfl, (fun k hk => .inl hk), hF⟩
 refine aC ?_
 replace ah := U2.af ah
 refine Z.b 2 (#[Z.i 17, Z.u x]) ah ?_
 refine dQ (Me (k := 17) hxb) (fun w5 U5 h5 => ?_) (fun w5 U5 h5 => ?_)
 simp only [Z.d, Z.c] at h5
 refine ak (lV) ?_
 refine aC ?_
 refine Z.f 0 ?_
 replace ah := U5.af ah
 refine Z.l ah ?_
 refine wQ (cZ _ _ _ _ _) (rfl) ?_
 refine aJ ?_
 refine Z.f 1 ?_
 refine Z.l ah ?_
 replace ae := ((ae.ai U1).ai U2).ai U5
 replace ay := U5.af (U2.af (U1.af ay))
 replace ag := U5.af (U2.af (U1.af ag))
 replace hF := ((hF.go0 U1).go0 U2).go0 U5
 replace aG := U5.af (U2.af aG)
 refine aN (Z9 ay ag ae hS (by have := hF.size; omega) aG (x := x) (hem2.1 (Classical.not_not.1 (by assumption)))) (fun v6 w6 D6 => ?_)
 have qF6 := hF.size
 have qF36 := hF.size
 obtain ⟨rfl, tn36, aG, bp36, A36, n36, cp36, ay, abR, WT, hn36, hb36, ho36, U6⟩ := D6
 replace hF := hF.go U6 (fun i hi hs => by exact hs)
 refine Z.e ?_
 refine Z.e ?_
 have e1 : (if (true : Bool) = true ∧ x = 109 then Gs.bP s 0 else s) = (if x = 109 then Gs.bP s 0 else s) := by simp
 have e0 : (if (false : Bool) = true ∧ x = 109 then Gs.bP s 0 else s) = s := by simp
 rw [← e1] at ay abR WT hn36; exact ⟨_, rfl, true, 0, 2, 0, tn36, x, false, rfl, .inl ⟨rfl, rfl, hem2.1 (Classical.not_not.1 (by assumption)), ((show (1 ≤ (17 : Int) ∧ (17 : Int) < 17) ∨ (True ∧ ¬ Gs.y9 x = ⟨#[]⟩) by assumption).resolve_left (by omega)).2, rfl, rfl, rfl⟩, aG, bp36, A36, n36, cp36, ay, abR, WT, hn36, hb36.imp id (fun h => by omega), (fun k hk => (ho36 k hk).imp id (fun h => by omega)), hF⟩
 simp only [Z.d, Z.c] at h5
 refine ak (nI) ?_
 refine aJ ?_
 have e1 : (if (true : Bool) = true ∧ x = 109 then Gs.bP s 0 else s) = (if x = 109 then Gs.bP s 0 else s) := by simp
 have e0 : (if (false : Bool) = true ∧ x = 109 then Gs.bP s 0 else s) = s := by simp
 replace ae := ((ae.ai U1).ai U2).ai U5
 replace ay := U5.af (U2.af (U1.af ay))
 replace ag := U5.af (U2.af (U1.af ag))
 replace hF := ((hF.go0 U1).go0 U2).go0 U5
 replace aG := U5.af (U2.af aG)
 exact ⟨_, rfl, false, _, st, why, tn, last, ins, rfl, .inr ⟨rfl, (by decide), rfl, rfl, rfl, (fun hq => by (have h17 : ¬ ((1 ≤ (17 : Int) ∧ (17 : Int) < 17) ∨ (True ∧ ¬ Gs.y9 x = ⟨#[]⟩)) := (by assumption); exact h17 (.inr ⟨trivial, hq.2⟩)))⟩, aG, bp, A, n, cp, (by rw [e0]; exact ay), (by rw [e0]; exact ag), (by rw [e0]; exact ae), (by rw [e0]; exact hn), .inl rfl, (fun k hk => .inl hk), hF⟩
end Go.Proofs.YtjdoakbadehicaaGreatDoor
end
section
namespace Gs
open Go Go.Sh
theorem _root_.Go.Sh.Bs.tail {x : Int} {l : List Int} (h : Bs (x :: l)) : Bs l := fun y hy => h y (List.mem_cons_of_mem _ hy)
theorem _root_.Go.Sh.Bs.head {x : Int} {l : List Int} (h : Bs (x :: l)) : 0 ≤ x ∧ x ≤ 255 := h x (List.mem_cons_self ..)
theorem UA {l r : List Int} {p : Int} (hb : Bs l) (h : ku l = .ok (p, r)) : Bs r := by
 unfold ku at h
 split at h
 ·cases h; exact hb.tail.tail
 ·cases h
theorem O6 {l r : List Int} {c : Int} (hb : Bs l) (h : eX l = .ok (c, r)) : (0 ≤ c ∧ c ≤ 255) ∧ Bs r := by
 rw [dL h] at hb; exact ⟨hb.head, hb.tail⟩
theorem Xg {l r : List Int} {c : Int} (hb : Bs l) (h : sD l = .ok (c, r)) : (0 ≤ c ∧ c ≤ 255) ∧ Bs r := by
 unfold sD at h
 split at h
 ·cases h
 ·split at h
  ·cases h
  ·cases h; exact ⟨hb.head, hb.tail⟩
theorem Ll {k : Int} : ∀ {n : Nat} {l r : List Int} {ps : List Pr}, Bs l → jE k n l = .ok (ps, r) → Bs r
 | 0, l, r, ps, hb, h => by unfold jE at h; cases h; exact hb
 | n + 1, l, r, ps, hb, h => by
  unfold jE at h
  split at h
  ·split at h
   ·cases h
   ·split at h
    ·cases h
    ·rename_i h2
     cases h
     exact Ll hb.tail.tail h2
  ·cases h
theorem ajT {l r : List Int} {p d : Int} {g : Bool} (hb : Bs l) (h : sH l = .ok ((p, d, g), r)) : (0 ≤ d ∧ d ≤ 255) ∧ Bs r := by
 unfold sH at h
 split at h
 ·cases h
 ·rename_i h1
  have := UA hb h1
  split at h
  ·cases h
  ·rename_i h2
   have := O6 this h2
   split at h
   ·split at h
    ·cases h
    ·rename_i h3
     have := Xg this.2 h3
     cases h; exact this
   ·split at h
    ·cases h; exact this
    ·cases h
theorem ajU {l r : List Int} {x : iK} (hb : Bs l) (h : jf l = .ok (x, r)) : ((0 ≤ x.b ∧ x.b ≤ 255) ∧ Bs x.ds) ∧ Bs r := by
 unfold jf at h
 split at h
 ·cases h
 ·rename_i c r0
  have z : (0 : Int) ≤ 0 ∧ (0 : Int) ≤ 255 := by decide
  split at h
  ·cases h
   exact ⟨⟨z, fun y hy => hb y ((List.takeWhile_sublist _).subset hy)⟩, fun y hy => hb y ((List.dropWhile_sublist _).subset hy)⟩
  split at h
  ·split at h
   ·cases h
   ·rename_i h1; cases h; exact ⟨⟨z, Bs.nil⟩, UA hb.tail h1⟩
  split at h
  ·split at h
   ·cases h
   ·rename_i h1; cases h; have := O6 hb.tail h1; exact ⟨⟨by dsimp only; omega, Bs.nil⟩, this.2⟩
  split at h
  ·split at h
   ·cases h
   ·rename_i h1
    split at h
    ·cases h
    ·rename_i h2; cases h; exact ⟨⟨z, Bs.nil⟩, Ll (O6 hb.tail h1).2 h2⟩
  split at h
  ·split at h
   ·cases h
   ·rename_i h2; cases h; exact ⟨⟨z, Bs.nil⟩, Ll hb.tail h2⟩
  split at h
  ·cases h; exact ⟨⟨z, Bs.nil⟩, hb.tail⟩
  split at h
  ·split at h
   ·cases h
   ·rename_i h1; cases h; have := ajT hb.tail h1; exact ⟨⟨this.1, Bs.nil⟩, this.2⟩
  split at h
  ·split at h
   ·cases h
   ·rename_i h1; cases h; have := Xg hb.tail h1; exact ⟨⟨this.1, Bs.nil⟩, this.2⟩
  ·cases h
theorem Qk : ∀ (m : Nat) (l : List Int), l.length ≤ m → Bs l → rX (iw l).1
 | 0, l, hl, _ => by
  obtain rfl := List.length_eq_zero_iff.1 (Nat.le_zero.1 hl)
  rw [rH]; exact fun o h => by cases h
 | m + 1, l, hl, hb => by
  by_cases h0 : l = []
  ·subst h0; rw [rH]; exact fun o h => by cases h
  ·cases h : jf l with
   | error e => rw [I5 h0 h]; exact fun o h => by cases h
   | ok x =>
    obtain ⟨x, r⟩ := x
    rw [zI h0 h]
    have h1 := ajU hb h
    have h2 := KZ h
    intro o ho
    rcases List.mem_cons.1 ho with rfl | ho
    ·exact h1.1
    ·exact Qk m r (by omega) h1.2 o ho
def CmW (c : qO) : Prop := rX c.c.os ∧ ∀ f ∈ c.fs, rX f.c.os
theorem rX.nil : rX [] := fun o h => by cases h
theorem ajV {P : List Int → qO × Int} (hP : ∀ b, Bs b → CmW (P b).1) {b : List Int} {f : rW} (hb : Bs b) (h : DT P b = some f) : rX f.c.os := by
 unfold DT at h
 split at h
 ·rename_i x r
  split at h
  ·unfold C9 at h
   split at h
   ·split at h
    ·cases h; exact rX.nil
    ·cases h
   ·cases h
  split at h
  ·unfold zF at h
   split at h
   ·split at h
    ·cases h; exact rX.nil
    ·cases h
   ·cases h
  split at h
  ·unfold writeM' at h
   split at h
   ·rename_i y z t
    split at h
    ·cases h
     exact (hP (z :: t) hb.tail.tail).1
    ·cases h
   ·cases h
  ·cases h
 ·cases h
theorem ajW {l x r : List Int} (hb : Bs l) (h : Aa l = some (x, r)) : Bs x ∧ Bs r := by
 unfold Aa at h
 split at h
 ·split at h
  ·cases h
  ·cases h
   exact ⟨fun y hy => hb y (List.mem_of_mem_drop (List.mem_of_mem_take hy)), fun y hy => hb y (List.mem_of_mem_drop hy)⟩
 ·cases h
theorem Ql {P : List Int → qO × Int} (hP : ∀ b, Bs b → CmW (P b).1) : ∀ (m : Nat) (b : List Int), b.length ≤ m → Bs b → ∀ f ∈ (jy P b).1, rX f.c.os
 | 0, b, hl, _, f, hf => by
  obtain rfl := List.length_eq_zero_iff.1 (Nat.le_zero.1 hl)
  rw [rJ] at hf; cases hf
 | m + 1, b, hl, hb, f, hf => by
  by_cases h0 : b = []
  ·subst h0; rw [rJ] at hf; cases hf
  ·rw [jy, if_neg h0] at hf
   split at hf
   ·cases hf
   ·rename_i x r hc
    have hl2 := uT hc
    have hw := ajW hb hc
    split at hf
    ·cases hf
    ·rename_i g hg
     rcases List.mem_cons.1 hf with rfl | hf
     ·exact ajV hP hw.1 hg
     ·exact Ql hP m r (by omega) hw.2 f hf
theorem Qm : ∀ (N : Nat) (b : List Int), Bs b → CmW (gJ N b).1
 | 0, b, _ => ⟨rX.nil, fun f h => by cases h⟩
 | N + 1, b, hb => by
  unfold gJ
  split
  ·exact ⟨rX.nil, fun f h => by cases h⟩
  ·rename_i x r
   split
   ·exact ⟨rX.nil, fun f h => by cases h⟩
   ·split
    ·split
     ·exact ⟨rX.nil, fun f h => by cases h⟩
     ·rename_i w r'
      exact ⟨Qk r'.length r' (Nat.le_refl _) hb.tail.tail, fun f h => by cases h⟩
    ·split
     ·exact ⟨rX.nil, fun f hf => Ql (Qm N) r.length r (Nat.le_refl _) hb.tail f hf⟩
     ·exact ⟨rX.nil, fun f h => by cases h⟩
theorem Sw.sV {n : Nat} {s : iL} (h : Sw n s) {c : qO} (hw : CmW c) : Sw (Gs.zW s c).1.cs.length (Gs.zW s c).1 := by
 unfold Gs.zW
 split
 ·exact h.fields hw.2
 ·exact h.Xh hw.1
theorem Sw.run {n : Nat} {s : iL} (h : Sw n s) {b : List Int} (hb : Bs b) : Sw (yP s b).1.cs.length (yP s b).1 := by
 unfold yP EQ
 split
 ·exact h.sV (Qm _ _ hb)
 ·exact h.len
def One (r c : Int) (s : iL) : Prop := (s.r0 = r ∧ s.c0 = c) ∧ (s.r1 = r ∧ s.c1 = c) ∧ s.r = r ∧ s.c = c
section
variable {r c : Int} {s : iL}
theorem One.renew (h : One r c s) (wh : Int) : One r c (bP s wh) := by
 obtain ⟨⟨rfl, rfl⟩, ⟨h1, h2⟩, h3, h4⟩ := h
 unfold bP
 split
 ·exact ⟨⟨rfl, rfl⟩, ⟨h1, h2⟩, rfl, rfl⟩
 ·exact ⟨⟨rfl, rfl⟩, ⟨h1, h2⟩, h1, h2⟩
theorem One.erase (h : One r c s) (x : rY) (wh : Int) : One r c (iO s x wh).1 := h.renew wh
theorem One.Xh (h : One r c s) (x : rY) : One r c (oM s x).1 := by
 unfold oM
 split
 ·exact h
 split
 ·exact h.erase x 0
 split
 ·exact h.erase x 1
 split
 ·exact h
 split <;> exact h
theorem One.field (h : One r c s) (f : rW) : One r c (fK s f).1 := by
 unfold fK
 split
 ·exact h
 split
 ·exact h.renew _
 ·exact h.Xh _
theorem One.fields {e : Int} : ∀ {fs : List rW} {s : iL} {o : vJ}, One r c s → One r c (kU e fs s o).1
 | [], s, o, h => h
 | f :: fs, s, o, h => by
  unfold kU
  split
  ·exact One.fields (h.field f)
  ·exact h.field f
theorem One.run (h : One r c s) (b : List Int) : One r c (yP s b).1 := by
 unfold yP
 split
 ·unfold Gs.zW
  split
  ·exact h.fields
  ·exact h.Xh _
 ·exact h
end
structure lK where
 A : Option Addr
 cp : Nat
 b : List Int
 k : Int
 x : Int
def de (d : lK) : List Value := [.slice d.A d.b.length d.cp, .int .i64 d.k, .int .u8 d.x]
theorem ae9 : Enc de 3 := ⟨fun _ => rfl, fun a u hu => by
 simp only [de, List.mem_cons, List.mem_nil_iff, or_false] at hu
 rcases hu with rfl | rfl | rfl <;> rfl, by decide⟩
def Dw1 (d : lK) : Prop := d.b.length ≤ d.cp ∧ Bs d.b ∧ (0 ≤ d.x ∧ d.x ≤ 255)
def MB (l : List lK) : Prop := ∀ d ∈ l, Dw1 d
theorem MB.get {l : List lK} (h : MB l) {k : Nat} {x : lK} (hx : l[k]? = some x) : Dw1 x := h x (List.mem_of_getElem? hx)
def uk (w : World) (l : List lK) : Prop := ∀ d ∈ l, Rd w d.A (vals .u8 d.b)
def UB (l : List lK) (k : Nat) : Prop := ∃ d ∈ l, d.b ≠ [] ∧ eY d.A k
def WU (l : List lK) (B : Nat) : Prop := l = [] ∨ ∀ k, UB l k → k < B
theorem WU.ne {l : List lK} {B : Nat} (h : WU l B) {b : Nat} (hb : B ≤ b) : l = [] ∨ ∀ k, UB l k → k ≠ b := h.imp_right fun h k hk => by have := h k hk; omega
theorem uk.lt {w : World} {l : List lK} (h : uk w l) : WU l w.heap.size := .inr fun k ⟨d, hd, hne, hk⟩ => by
 rcases (h d hd).lt with h2 | h2
 ·exact absurd (List.map_eq_nil_iff.1 h2) hne
 ·exact h2 k hk
theorem uk.dX {S : Nat → Prop} {w w' : World} {l : List lK} (h : uk w l) (u : aA S w w') (hs : l = [] ∨ ∀ k, UB l k → ¬ S k) : uk w' l := by
 intro d hd
 by_cases hne : d.b = []
 ·rw [hne]; exact .inl rfl
 ·refine (h d hd).dX u ?_
  rcases hs with rfl | hs
  ·cases hd
  ·exact .inr fun k hk => hs k ⟨d, hd, hne, hk⟩
theorem uk.ai {w w' : World} {l : List lK} (h : uk w l) (u : aA no w w') : uk w' l := h.dX u (.inr fun _ _ => id)
theorem uk.aF {w w' : World} {l : List lK} {b : Nat} (h : uk w l) (u : aA (· = b) w w') (hs : l = [] ∨ ∀ k, UB l k → k ≠ b) : uk w' l := h.dX u hs
theorem uk.apart {w : World} {l : List lK} (h : uk w l) {b : Nat} (hb : b = w.heap.size) : l = [] ∨ ∀ k, UB l k → k ≠ b := h.lt.imp_right fun h k hk => by have := h k hk; omega
theorem uk.get {w : World} {l : List lK} (h : uk w l) {k : Nat} {x : lK} (hx : l[k]? = some x) : Rd w x.A (vals .u8 x.b) := h x (List.mem_of_getElem? hx)
theorem Ui {l : List lK} {i : Nat} {x : lK} {S : Nat → Prop} (h : l = [] ∨ ∀ k, UB l k → S k) (hx : l[i]? = some x) : vals .u8 x.b = [] ∨ ∀ k, eY x.A k → S k := by
 by_cases hne : x.b = []
 ·left; rw [hne]; rfl
 ·right
  intro k hk
  rcases h with rfl | h
  ·simp at hx
  ·exact h k ⟨x, List.mem_of_getElem? hx, hne, hk⟩
end Gs
namespace Gs
open Go Go.Sh
theorem Sw.ifr {n : Nat} {s : iL} (h : Sw n s) (p : Prop) [Decidable p] : Sw (if p then bP s 0 else s).cs.length (if p then bP s 0 else s) := by
 split
 ·exact h.renew 0
 ·exact h.len
theorem One.ifr {r c : Int} {s : iL} (h : One r c s) (p : Prop) [Decidable p] : One r c (if p then bP s 0 else s) := by
 split
 ·exact h.renew 0
 ·exact h
def RQ (r c : Int) : iL := ⟨r, c, r, c, 0, r, c, Gi r c, 0⟩
theorem adM (r c : Int) : One r c (RQ r c) := ⟨⟨rfl, rfl⟩, ⟨rfl, rfl⟩, rfl, rfl⟩
theorem abS {r c : Int} (h : aZ r c ≠ 0) : Sw (aZ r c).toNat (RQ r c) := ⟨⟨h, h⟩, Pw.new h⟩
def Eb (r c : Int) (ds : List lK) : Prop := aZ r c ≠ 0 ∧ aZ r c ≤ 60 ∧ ds.length ≤ 20 ∧ ∀ d ∈ ds, d.b.length ≤ 150
theorem Eb.no {r c : Int} {ds : List lK} {k : Nat} {d : lK} (h : ds[k]? = some d) (hd : 150 < d.b.length) : ¬ Eb r c ds := fun h2 => by
 have := h2.2.2.2 d (List.mem_of_getElem? h); omega
def upto (ds : List lK) (k : Nat) : Prop := ∀ d ∈ ds.take k, d.b.length ≤ 150
theorem ajs (ds : List lK) : upto ds 0 := fun d h => by rw [List.take_zero] at h; cases h
theorem PY {ds : List lK} {k : Nat} {x : lK} (h : upto ds k) (hx : ds[k]? = some x) (hl : x.b.length ≤ 150) : upto ds (k + 1) := fun d hd => by
 rw [List.take_add_one, hx] at hd
 rcases List.mem_append.1 hd with hd | hd
 ·exact h d hd
 ·rw [show d = x by simpa using hd]; exact hl
theorem upto_all {ds : List lK} {k : Nat} (h : upto ds k) (hk : ds.length ≤ k) : ∀ d ∈ ds, d.b.length ≤ 150 := fun d hd => h d (by rw [List.take_of_length_le hk]; exact hd)
end Gs
namespace Go.Sh
open Go
theorem G9.Ec {A : Option Addr} {xs ys : List Value} {B : Nat} {w : World} {e size : Nat} {v : Value} (h : G9 A xs B) (o : Own B w e size v ys) : xs = [] ∨ ∀ k, eY A k → ¬ aH v k := h.imp_right fun h k hk hs => by
 have := h k hk
 have := (Own.ge o hs).1
 omega
theorem _root_.Gs.WU.Ec {l : List Gs.lK} {ys : List Value} {B : Nat} {w : World} {e size : Nat} {v : Value} (h : Gs.WU l B) (o : Own B w e size v ys) : l = [] ∨ ∀ k, Gs.UB l k → ¬ aH v k := h.imp_right fun h k hk hs => by
 have := h k hk
 have := (Own.ge o hs).1
 omega
end Go.Sh
namespace Gs
open Go Go.Sh
def kv (a : Int × Int) : List Value := [.int .i64 a.1, .int .u8 a.2]
theorem afU : Enc kv 2 := ⟨fun _ => rfl, fun a u hu => by
 simp only [kv, List.mem_cons, List.mem_nil_iff, or_false] at hu
 rcases hu with rfl | rfl <;> rfl, by decide⟩
def Kw (a : Int × Int) : Prop := 0 ≤ a.2 ∧ a.2 ≤ 255
end Gs
end
section
namespace Go.Proofs.YtjdoakbadehicaaGreatDoor
open Go Go.Sh
set_option maxRecDepth 100000
theorem adJ {s : Gs.iL} {A : Option Addr} {n cp bp bs B0 : Nat} {bk : Nat} {st why tn last : Int} {ins : Bool} {w : World} (ay : Z.h w bs #[Z.i s.r0, Z.i s.c0, Z.i s.r1, Z.i s.c1, Z.i s.wh, Z.p bp] 89) (ag : Z.h w bp #[Z.i s.r, Z.i s.c, .slice A n cp, Z.i s.cur] 91) (ae : Own B0 w 37 5 (.slice A n cp) (rows Gs.cv s.cs)) (hS : Gs.Sw n s) (hB0 : B0 ≤ w.heap.size) (aG : Z.h w bk #[Z.p bs, Z.i st, Z.i why, Z.i tn, .bool ins, Z.u last] 95) {k x : Int} (hxb : 0 ≤ x ∧ x ≤ 255) (hst : 1 ≤ st ∧ st ≤ 3) {r c : Int} (hone : Gs.One r c s) :
    oX 18 #[Z.p bk, .agg #[Z.i k, Z.u x]] w fun e w' => ∃ v, e = .returned v ∧ ∃ (st' why' tn' last' : Int) (ins' : Bool) (s' : Gs.iL) (bp' : Nat) (A' : Option Addr) (n' cp' : Nat), (1 ≤ st' ∧ st' ≤ 3) ∧ Gs.Sw n' s' ∧ Gs.One r c s' ∧ Z.h w' bk #[Z.p bs, Z.i st', Z.i why', Z.i tn', .bool ins', Z.u last'] 95 ∧ Z.h w' bs #[Z.i s'.r0, Z.i s'.c0, Z.i s'.r1, Z.i s'.c1, Z.i s'.wh, Z.p bp'] 89 ∧ Z.h w' bp' #[Z.i s'.r, Z.i s'.c, .slice A' n' cp', Z.i s'.cur] 91 ∧ Own B0 w' 37 5 (.slice A' n' cp') (rows Gs.cv s'.cs) ∧ (bp' = bp ∨ w.heap.size ≤ bp') ∧ (∀ k, aH (.slice A' n' cp') k → aH (.slice A n cp) k ∨ w.heap.size ≤ k) ∧ aA (fun k => ((aH (.slice A n cp) k ∨ k = bp) ∨ k = bs) ∨ k = bk) w w' := by
 by_cases hk : k = 17
 subst hk
 refine (adI ay ag ae hS hB0 aG hxb).mono fun e w' D => ?_
 obtain ⟨v, hv, q, er, st', why', tn', last', ins', -, hd, hbk, bp', A', n', cp', h1, h2, h3, h4, h5, h6, hU⟩ := D
 exact ⟨v, hv, st', why', tn', last', ins', _, bp', A', n', cp', by omega, h4 ▸ hS.ifr _, hone.ifr _, hbk, h1, h2, h3, h5, h6, hU⟩
 refine (BP ag ae hS.2 aG ay hxb hk hst).mono fun e w' D => ?_
 obtain ⟨v, hv, er, st', why', tn', ins', c1, cur1, -, hs, hW, -, h1, h2, h3, hU⟩ := D
 exact ⟨v, hv, st', why', tn', last, ins', { s with cs := c1, cur := cur1 }, bp, A, n, cp, hs, ⟨hS.1, hW⟩, hone, h3, hU.get ay (fun hs => by
   rcases hs with (hs | hs) | hs
   · have := au ay; exact Own.aS ae ay (by decide) _ hs rfl
   · subst hs; have e := Option.some.inj (ay.symm.trans ag); injection e with e1 e2; exact absurd e2 (by decide)
   · subst hs; have e := Option.some.inj (ay.symm.trans aG); injection e with e1 e2; exact absurd e2 (by decide)), h1, h2, .inl rfl, fun k hk => .inl hk, hU.mono (Nat.le_refl _) (fun i _ h => h.elim (fun h => .inl (.inl h)) .inr)⟩
theorem aab {r0 c0 r1 c1 : Int} {w : World} (hz : Gs.aZ r0 c0 = 0) :
    oX 12 #[.agg #[Z.i r0, Z.i c0], .agg #[Z.i r1, Z.i c1]] w fun e w' => e = .returned (.tuple #[.pointer none, Z.i 1]) ∧ aA no w w' := by
 refine Wl.calls ?_
 unfold Wl
 have hF : aA no w w := Fr.refl _ _ _
 refine Z.x (#[Z.i r0, Z.i c0]) (fun b1 w1 e1 ah _ U1 => ?_)
 refine Z.x (#[Z.i r1, Z.i c1]) (fun b2 w2 e2 ax _ U2 => ?_)
 replace ah := U2.af ah
 refine Z.b 2 (#[Z.i r0, Z.i c0]) ah ?_
 refine aB (qA (r := r0) (c := c0)) (fun w3 U3 => ?_)
 refine wQ (cZ _ _ _ _ _) (hz) ?_
 refine bu (bu (bu (aT (aJ ?_))))
 replace hF := ((hF.go0 U1).go0 U2).go0 U3
 exact ⟨rfl, hF⟩
theorem Uh {r c : Int} {ds : List Gs.lK} {dA : Option Addr} {dc : Nat} {w : World} (hz : Gs.aZ r c = 0) :
    oX 22 #[.agg #[Z.i r, Z.i c], .slice dA ds.length dc] w fun e w' => e = .returned (.tuple #[.pointer none, .pointer none, .bool false]) ∧ aA no w w' := by
 refine Wv.calls ?_
 unfold Wv
 have hF : aA no w w := Fr.refl _ _ _
 refine Z.x (#[Z.i r, Z.i c]) (fun b1 w1 e1 ah _ U1 => ?_)
 refine Z.b 2 (#[Z.i r, Z.i c]) ah ?_
 refine Z.b 2 (#[Z.i r, Z.i c]) ah ?_
 refine aB (aab (r1 := r) (c1 := c) hz) (fun w2 U2 => ?_)
 refine Z.e ?_
 refine Z.e ?_
 refine wQ (kR _ _ _ _ _) (by decide) ?_
 refine bu (bu (bu (bu (aT (bu (bu (bu (aT (aJ ?_)))))))))
 replace hF := (hF.go0 U1).go0 U2
 exact ⟨rfl, hF⟩
set_option maxHeartbeats 4000000 in
theorem IW {r c : Int} {ds : List Gs.lK} {dA : Option Addr} {dc : Nat} {w : World} (jk : Rd w dA (rows Gs.de ds)) (jl : Gs.uk w ds) (hdw : Gs.MB ds) (hdn : ds.length ≤ maxLen) (hz : Gs.aZ r c ≠ 0) :
    oX 22 #[.agg #[Z.i r, Z.i c], .slice dA ds.length dc] w fun e w' => ∃ v, e = .returned v ∧ ((¬ Gs.Eb r c ds ∧ v = .tuple #[.pointer none, .pointer none, .bool false] ∧ aA no w w') ∨ (Gs.Eb r c ds ∧ ∃ (s : Gs.iL) (bs bk bp : Nat) (A : Option Addr) (n cp : Nat) (st why tn last : Int) (ins : Bool), v = .tuple #[Z.p bs, Z.p bk, .bool true] ∧ w.heap.size ≤ bs ∧ w.heap.size ≤ bk ∧ w.heap.size ≤ bp ∧ (1 ≤ st ∧ st ≤ 3) ∧ Gs.Sw n s ∧ Gs.One r c s ∧ n ≤ 60 ∧ Z.h w' bk #[Z.p bs, Z.i st, Z.i why, Z.i tn, .bool ins, Z.u last] 95 ∧ Z.h w' bs #[Z.i s.r0, Z.i s.c0, Z.i s.r1, Z.i s.c1, Z.i s.wh, Z.p bp] 89 ∧ Z.h w' bp #[Z.i s.r, Z.i s.c, .slice A n cp, Z.i s.cur] 91 ∧ Own w.heap.size w' 37 5 (.slice A n cp) (rows Gs.cv s.cs) ∧ aA no w w')) := by
 refine Wv.calls ?_
 unfold Wv
 obtain ⟨B0, hB0⟩ : ∃ B, B = w.heap.size := ⟨_, rfl⟩
 have hldd : G9 dA (rows Gs.de ds) B0 := hB0 ▸ jk.lt
 have hlde : Gs.WU ds B0 := hB0 ▸ jl.lt
 have hcb := Gs.zk r c
 have hF : aA no w w := Fr.refl _ _ _
 refine Z.x (#[Z.i r, Z.i c]) (fun b1 w1 e1 ah _ U1 => ?_)
 refine Z.b 2 (#[Z.i r, Z.i c]) ah ?_
 refine Z.b 2 (#[Z.i r, Z.i c]) ah ?_
 refine aN (Nb (r0 := r) (c0 := c) (r1 := r) (c1 := c) hz hz) (fun v2 w2 D2 => ?_)
 obtain ⟨bs, bp, gg, rfl, gbs, gbp, ay, ag, ae, U2⟩ := D2
 replace hF := hF.go0 U1
 have aiN := hF.size
 have gBs : B0 ≤ bs := by omega
 have gBp : B0 ≤ bp := by omega
 replace jk := jk.ai U1
 have DD := (jk.lt).ne (b := bs) (by omega)
 replace jl := jl.ai U1
 have DF := (jl.lt).ne (b := bs) (by omega)
 replace ae := ae.mono (B' := w.heap.size) hF.size
 refine Z.e ?_
 refine Z.e ?_
 refine ny (kR _ _ _ _ _) (fun h => h rfl) ?_
 refine bD (bD ?_)
 refine aB (jH ay) (fun w3 U3 => ?_)
 refine bD ?_
 replace ae := ae.ai U3
 replace ag := U3.af ag
 refine aB (fG ag ae List.length_replicate.symm) (fun w4 U4 => ?_)
 refine bD ?_
 refine az (gtr _ _ _ _) (fun h5 => ?_) (fun h5 => ?_)
 refine aU (bu (bu (bu (aT (aJ ?_)))))
 replace hF := ((hF.go0 U2).go0 U3).go0 U4
 exact ⟨_, rfl, .inl ⟨fun hd => by have := hd.2.1; have := hd.2.2.1; omega, rfl, hF⟩⟩
 refine aU (bD (bD ?_))
 refine ak (gZ (by kernel_rfl) _ _ _) ?_
 refine bD ?_
 refine az (gtr _ _ _ _) (fun h7 => ?_) (fun h7 => ?_)
 refine aU (aJ ?_)
 replace hF := ((hF.go0 U2).go0 U3).go0 U4
 exact ⟨_, rfl, .inl ⟨fun hd => by have := hd.2.1; have := hd.2.2.1; omega, rfl, hF⟩⟩
 refine aU (aC ?_)
 refine aN (adK (bs := bs)) (fun v9 w9 D9 => ?_)
 obtain ⟨bk, rfl, gbk, aG, U9⟩ := D9
 replace hF := ((hF.go0 U2).go0 U3).go0 U4
 have gBk : B0 ≤ bk := by have := hF.size; omega
 replace jk := ((jk.ai U2).ai U3).ai U4
 have vK := (jk.lt).ne (b := bk) (by omega)
 replace jl := ((jl.ai U2).ai U3).ai U4
 have vM := (jl.lt).ne (b := bk) (by omega)
 replace ay := U4.af (U3.af ay)
 have Gl : bs ≠ bk := by have := au ay; omega
 replace ag := U4.af ag
 have adL : bp ≠ bk := by have := au ag; omega
 replace ae := ae.ai U4
 have VI : ∀ k, aH _ k → k ≠ bk := fun k hk => by have := (Own.ge ae hk).2; omega
 have Jt : w.heap.size ≤ bk := by have := hF.size; omega
 refine aB (xM aG) (fun w10 aY => ?_)
 replace aG := aY.af aG
 refine aN (zt aG) (fun v11 nR D11 => ?_)
 obtain ⟨t35, N11, bK⟩ := D11
 replace aG := N11
 replace ae := ((ae.ai U9).ai aY).aF bK VI
 replace ae := ae.mono (B' := B0) (by omega)
 have hS := Gs.abS hz
 have hone := Gs.adM r c
 have hst0 : (1 : Int) ≤ 1 ∧ (1 : Int) ≤ 3 := by decide
 refine bM (fun g w' => ∃ (s1 : Gs.iL) (bp1 : Nat) (A1 : Option Addr) (n1 : Nat) (cp1 : Nat) (st1 : Int) (why1 : Int) (tn1 : Int) (last1 : Int) (ins1 : Bool), (Gs.upto ds ds.length) ∧ (Gs.Sw n1 s1) ∧ (Gs.One r c s1) ∧ (1 ≤ st1 ∧ st1 ≤ 3) ∧ (B0 ≤ bp1) ∧ (Z.h w' bs #[Z.i s1.r0, Z.i s1.c0, Z.i s1.r1, Z.i s1.c1, Z.i s1.wh, Z.p bp1] 89) ∧ (Z.h w' bp1 #[Z.i s1.r, Z.i s1.c, .slice A1 n1 cp1, Z.i s1.cur] 91) ∧ (Own B0 w' 37 5 (.slice A1 n1 cp1) (rows Gs.cv s1.cs)) ∧ (Z.h w' bk #[Z.p bs, Z.i st1, Z.i why1, Z.i tn1, .bool ins1, Z.u last1] 95) ∧ (Rd w' dA (rows Gs.de ds)) ∧ (Gs.uk w' ds) ∧ (aA no w w')) (fun J1 hJ1 => ?_) (fun gJ1 jT hI => ?_)
 refine ak (gZ (by kernel_rfl) _ _ _) ?_
 refine ed (fun g w' => ∃ (k : Nat) (s1 : Gs.iL) (bp1 : Nat) (A1 : Option Addr) (n1 : Nat) (cp1 : Nat) (st1 : Int) (why1 : Int) (tn1 : Int) (last1 : Int) (ins1 : Bool), (g 38 = Z.i (k : Int)) ∧ (k ≤ ds.length) ∧ (Gs.upto ds k) ∧ (Gs.Sw n1 s1) ∧ (Gs.One r c s1) ∧ (1 ≤ st1 ∧ st1 ≤ 3) ∧ (B0 ≤ bp1) ∧ (Z.h w' bs #[Z.i s1.r0, Z.i s1.c0, Z.i s1.r1, Z.i s1.c1, Z.i s1.wh, Z.p bp1] 89) ∧ (Z.h w' bp1 #[Z.i s1.r, Z.i s1.c, .slice A1 n1 cp1, Z.i s1.cur] 91) ∧ (Own B0 w' 37 5 (.slice A1 n1 cp1) (rows Gs.cv s1.cs)) ∧ (Z.h w' bk #[Z.p bs, Z.i st1, Z.i why1, Z.i tn1, .bool ins1, Z.u last1] 95) ∧ (Rd w' dA (rows Gs.de ds)) ∧ (Gs.uk w' ds) ∧ (aA no w w')) (fun g w' => ds.length - (RowKit.intOf (g 38)).toNat) ?_ (fun g2 qK hI => ?_)
 replace jk := ((jk.ai U9).ai aY).aF bK vK
 replace jl := ((jl.ai U9).ai aY).aF bK vM
 replace ay := bK.aj (aY.af (U9.af ay)) Gl
 replace ag := bK.aj (aY.af (U9.af ag)) adL
 replace hF := ((hF.go0 U9).go0 aY).go1 bK Jt
 exact ⟨0, Gs.RQ r c, bp, _, _, _, 1, 0, _, 96, false, (by rfl), Nat.zero_le _, (Gs.ajs ds), hS, hone, hst0, gBp, ay, ag, ae, aG, jk, jl, hF⟩
 replace jk := ((jk.ai U9).ai aY).aF bK vK
 replace jl := ((jl.ai U9).ai aY).aF bK vM
 replace ay := bK.aj (aY.af (U9.af ay)) Gl
 replace hF := ((hF.go0 U9).go0 aY).go1 bK Jt
 obtain ⟨k, s1, bp1, A1, n1, cp1, st1, why1, tn1, last1, ins1, g38, hk, hup, hS1, hone1, hst1, gBp1, ay, nN, jd, aG, jk, jl, hF⟩ := hI
 rw [g38]
 refine az (lss _ _ _ _) (fun h12 => ?_) (fun h12 => ?_)
 refine aJ ?_
 refine bM (fun g w' => ∃ (s2 : Gs.iL) (bp2 : Nat) (A2 : Option Addr) (n2 : Nat) (cp2 : Nat) (st2 : Int) (why2 : Int) (tn2 : Int) (last2 : Int) (ins2 : Bool), (Z.h w' bs #[Z.i s2.r0, Z.i s2.c0, Z.i s2.r1, Z.i s2.c1, Z.i s2.wh, Z.p bp2] 89) ∧ (Z.h w' bp2 #[Z.i s2.r, Z.i s2.c, .slice A2 n2 cp2, Z.i s2.cur] 91) ∧ (Own B0 w' 37 5 (.slice A2 n2 cp2) (rows Gs.cv s2.cs)) ∧ (Z.h w' bk #[Z.p bs, Z.i st2, Z.i why2, Z.i tn2, .bool ins2, Z.u last2] 95) ∧ (Gs.upto ds (k + 1)) ∧ (Gs.Sw n2 s2) ∧ (Gs.One r c s2) ∧ (1 ≤ st2 ∧ st2 ≤ 3) ∧ (B0 ≤ bp2) ∧ (Rd w' dA (rows Gs.de ds)) ∧ (Gs.uk w' ds) ∧ (aA no w w')) (fun J3 hJ3 => ?_) (fun gJ3 JO hI => ?_)
 refine sW Gs.ae9 (by kernel_rfl) (by kernel_rfl) jk (by rfl) (by omega) (by omega) (fun V8 BJ => ?_)
 simp only [Int.toNat_natCast] at BJ
 have hdx := hdw.get BJ
 refine Z.n (#[.slice none 0 0, Z.i 0, Z.u 0]) (fun b14 sO e14 dJ _ dC => ?_)
 have zU : bs ≠ b14 := by have := au ay; omega
 have Nc : bp1 ≠ b14 := by have := au nN; omega
 have Ha := jd.apart e14
 have PX : bk ≠ b14 := by have := au aG; omega
 have Nh := jk.apart e14
 have Nj := jl.apart e14
 have pF : w.heap.size ≤ b14 := by have := hF.size; omega
 refine Z.t 3 ((Gs.de V8).toArray) (by (simp [Value.cells, Value.oneCell', Gs.cv, Gs.fv, Gs.ie, Gs.pe, Gs.oe, Gs.cO, Gs.fe, Gs.fM, Gs.ce, Gs.dZ, Gs.re, Gs.de]; done)) dJ (fun uG dJ _ bW => ?_)
 refine Z.f 0 ?_
 refine Z.l dJ ?_
 refine ak (gZ (by kernel_rfl) _ _ _) ?_
 refine az (gtr _ _ _ _) (fun h16 => ?_) (fun h16 => ?_)
 refine aJ ?_
 replace hF := (hF.go0 dC).go1 bW pF
 exact ⟨_, rfl, .inl ⟨Gs.Eb.no BJ (by omega), rfl, hF⟩⟩
 refine aC ?_
 refine Z.f 0 ?_
 refine Z.l dJ ?_
 refine ak (gZ (by kernel_rfl) _ _ _) ?_
 refine az (gtr _ _ _ _) (fun h18 => ?_) (fun h18 => ?_)
 refine aJ ?_
 refine Z.f 0 ?_
 refine Z.l dJ ?_
 replace jd := (jd.ai dC).aF bW Ha
 replace jl := (jl.ai dC).aF bW Nj
 replace ay := bW.aj (dC.af ay) zU
 replace nN := bW.aj (dC.af nN) Nc
 replace hF := (hF.go0 dC).go1 bW pF
 refine aN (IV (b := V8.b) ay nN jd hS1 (by have := hF.size; omega) (jl.get BJ) rfl hdx.1 hdx.2.1 (by omega) (Gs.Ui (hlde.Ec jd) BJ) (Gs.Ui (hlde.ne gBp1) BJ) (Gs.Ui (hlde.ne gBs) BJ)) (fun v19 Ar D19 => ?_)
 have qF := jd
 have acS := hF.size
 have anp := hF.size
 obtain ⟨rfl, bp54, A54, n54, cp54, ay, CG, vV, hn54, hb54, ho54, fC⟩ := D19
 replace aG := bW.aj (dC.af aG) PX
 replace aG := fC.get aG (fun hs => by rcases hs with (hs | hs) | hs <;> first | (first | exact Own.aS qF aG (by decide) _ hs rfl | (have := Own.ge qF hs; omega)) | (exact absurd hs (by first | omega | exact dW (by assumption) (by assumption) (by decide))))
 replace jk := (jk.ai dC).aF bW Nh
 replace jk := jk.dX fC ((hldd.Ec jd).elim .inl fun h0 => (hldd.ne gBp1).elim .inl fun h1 => DD.elim .inl fun h2 => .inr fun k hk hs => by rcases hs with (hs | hs) | hs <;> first | exact h0 k hk hs | exact h1 k hk hs | exact h2 k hk hs)
 replace jl := jl.dX fC ((hlde.Ec jd).elim .inl fun h0 => (hlde.ne gBp1).elim .inl fun h1 => DF.elim .inl fun h2 => .inr fun k hk hs => by rcases hs with (hs | hs) | hs <;> first | exact h0 k hk hs | exact h1 k hk hs | exact h2 k hk hs)
 replace hF := hF.go fC (fun i hi hs => Or.elim hs (fun hs => Or.elim hs (fun hs => absurd hi (by have := (Own.ge jd hs).1; omega)) (fun hs => absurd hi (by have e : i = bp1 := hs; omega))) (fun hs => absurd hi (by have e : i = bs := hs; omega)))
 clear qF
 refine aN (PW aG hst1) (fun v20 xu D20 => ?_)
 obtain ⟨st, why, tn, last, ins, N20, hst, hq1_55, hq0_55, dR⟩ := D20
 replace vV := vV.aF dR (Own.aS vV (by assumption) (by decide))
 replace CG := dR.aj CG (by exact dW (by assumption) (by assumption) (by decide))
 replace aG := N20
 refine hJ3 _ _ ?_
 replace jk := jk.aF dR vK
 replace jl := jl.aF dR vM
 replace ay := dR.aj ay Gl
 replace hF := hF.go1 dR Jt
 exact ⟨_, _, _, _, _, _, _, _, _, _, ay, (by exact CG), (by exact vV), aG, (Gs.PY hup BJ (by omega)), (by (rw [hn54]; exact hS1.run hdx.2.1)), (by exact hone1.run _), (by exact hst), (by exact hb54.elim (fun h => h.symm ▸ gBp1) (fun h => by omega)), jk, jl, hF⟩
 refine aC ?_
 refine Z.f 1 ?_
 refine Z.b 2 _ dJ ?_
 replace jd := (jd.ai dC).aF bW Ha
 replace ay := bW.aj (dC.af ay) zU
 replace nN := bW.aj (dC.af nN) Nc
 replace aG := bW.aj (dC.af aG) PX
 replace hF := (hF.go0 dC).go1 bW pF
 refine aN (adJ ay nN jd hS1 (by have := hF.size; omega) aG (k := V8.k) hdx.2.2 hst1 hone1) (fun v21 Dc D21 => ?_)
 have qF21 := hF.size
 have Oe := hF.size
 obtain ⟨st59, why59, tn59, last59, ins59, s59, bp59, A59, n59, cp59, hst59, hS59, hone59, aG, ay, ajt, ahb, hb59, ho59, dV⟩ := D21
 replace jk := (jk.ai dC).aF bW Nh
 replace jk := jk.dX dV ((hldd.Ec jd).elim .inl fun h0 => (hldd.ne gBp1).elim .inl fun h1 => DD.elim .inl fun h2 => vK.elim .inl fun h3 => .inr fun k hk hs => by rcases hs with ((hs | hs) | hs) | hs <;> first | exact h0 k hk hs | exact h1 k hk hs | exact h2 k hk hs | exact h3 k hk hs)
 replace jl := (jl.ai dC).aF bW Nj
 replace jl := jl.dX dV ((hlde.Ec jd).elim .inl fun h0 => (hlde.ne gBp1).elim .inl fun h1 => DF.elim .inl fun h2 => vM.elim .inl fun h3 => .inr fun k hk hs => by rcases hs with ((hs | hs) | hs) | hs <;> first | exact h0 k hk hs | exact h1 k hk hs | exact h2 k hk hs | exact h3 k hk hs)
 replace hF := hF.go dV (fun i hi hs => Or.elim hs (fun hs => Or.elim hs (fun hs => Or.elim hs (fun hs => absurd hi (by have := (Own.ge jd hs).1; omega)) (fun hs => absurd hi (by have e : i = bp1 := hs; omega))) (fun hs => absurd hi (by have e : i = bs := hs; omega))) (fun hs => absurd hi (by have e : i = bk := hs; omega)))
 refine hJ3 _ _ ?_
 exact ⟨_, _, _, _, _, _, _, _, _, _, ay, (by exact ajt), (by exact ahb), aG, (Gs.PY hup BJ (by omega)), (by exact hS59), (by exact hone59), (by exact hst59), (by exact hb59.elim (fun h => h.symm ▸ gBp1) (fun h => by omega)), jk, jl, hF⟩
 obtain ⟨s2, bp2, A2, n2, cp2, st2, why2, tn2, last2, ins2, ay, tZ, jK, aG, hup2, hS2, hone2, hst2, gBp2, jk, jl, hF⟩ := hI
 refine ak (dK _ (by omega)) ?_
 exact ⟨⟨k + 1, s2, bp2, A2, n2, cp2, st2, why2, tn2, last2, ins2, (by rfl), by omega, hup2, hS2, hone2, hst2, gBp2, ay, tZ, jK, aG, jk, jl, hF⟩, cnt_lt (by rfl) rfl (by omega)⟩
 refine aC ?_
 refine hJ1 _ _ ?_
 exact ⟨_, _, _, _, _, _, _, _, _, _, (by rw [show ds.length = k by omega]; exact hup), hS1, hone1, hst1, gBp1, ay, nN, jd, aG, jk, jl, hF⟩
 replace jk := ((jk.ai U9).ai aY).aF bK vK
 replace jl := ((jl.ai U9).ai aY).aF bK vM
 replace ay := bK.aj (aY.af (U9.af ay)) Gl
 replace hF := ((hF.go0 U9).go0 aY).go1 bK Jt
 obtain ⟨s1, bp1, A1, n1, cp1, st1, why1, tn1, last1, ins1, hup, hS1, hone1, hst1, gBp1, ay, nN, jd, aG, jk, jl, hF⟩ := hI
 exact ⟨_, rfl, .inr ⟨⟨hz, by omega, by omega, Gs.upto_all hup (Nat.le_refl _)⟩, s1, bs, bk, bp1, A1, n1, cp1, st1, why1, tn1, last1, ins1, rfl, hB0 ▸ gBs, hB0 ▸ gBk, hB0 ▸ gBp1, hst1, hS1, hone1, by have := hS1.2.2.2.2.2.1; rw [hone1.2.2.1, hone1.2.2.2] at this; omega, aG, ay, nN, hB0 ▸ jd, hF⟩⟩
theorem aac {r c : Int} {ds : List Gs.lK} {dA : Option Addr} {dc : Nat} {w : World} (jk : Rd w dA (rows Gs.de ds)) (jl : Gs.uk w ds) (hdw : Gs.MB ds) (hdn : ds.length ≤ maxLen) (h : ¬ Gs.Eb r c ds) :
    oX 22 #[.agg #[Z.i r, Z.i c], .slice dA ds.length dc] w fun e w' => e = .returned (.tuple #[.pointer none, .pointer none, .bool false]) ∧ aA no w w' := by
 by_cases hz : Gs.aZ r c = 0
 exact Uh hz
 refine (IW jk jl hdw hdn hz).mono fun e w' D => ?_
 obtain ⟨v, rfl, ⟨_, rfl, hU⟩ | ⟨h2, _⟩⟩ := D
 exact ⟨rfl, hU⟩
 exact absurd h2 h
theorem aad {r c : Int} {ds : List Gs.lK} {dA : Option Addr} {dc : Nat} {w : World} (jk : Rd w dA (rows Gs.de ds)) (jl : Gs.uk w ds) (hdw : Gs.MB ds) (hdn : ds.length ≤ maxLen) (h : Gs.Eb r c ds) :
    oX 22 #[.agg #[Z.i r, Z.i c], .slice dA ds.length dc] w fun e w' => ∃ v, e = .returned v ∧ ∃ (s : Gs.iL) (bs bk bp : Nat) (A : Option Addr) (n cp : Nat) (st why tn last : Int) (ins : Bool), v = .tuple #[Z.p bs, Z.p bk, .bool true] ∧ w.heap.size ≤ bs ∧ w.heap.size ≤ bk ∧ w.heap.size ≤ bp ∧ (1 ≤ st ∧ st ≤ 3) ∧ Gs.Sw n s ∧ Gs.One r c s ∧ n ≤ 60 ∧ Z.h w' bk #[Z.p bs, Z.i st, Z.i why, Z.i tn, .bool ins, Z.u last] 95 ∧ Z.h w' bs #[Z.i s.r0, Z.i s.c0, Z.i s.r1, Z.i s.c1, Z.i s.wh, Z.p bp] 89 ∧ Z.h w' bp #[Z.i s.r, Z.i s.c, .slice A n cp, Z.i s.cur] 91 ∧ Own w.heap.size w' 37 5 (.slice A n cp) (rows Gs.cv s.cs) ∧ aA no w w' := by
 refine (IW jk jl hdw hdn h.1).mono fun e w' D => ?_
 obtain ⟨v, rfl, ⟨h2, _⟩ | ⟨_, hD⟩⟩ := D
 exact absurd h h2
 exact ⟨v, rfl, hD⟩
end Go.Proofs.YtjdoakbadehicaaGreatDoor
end
section
namespace Gs
open Go Go.Sh
def O1 (cs : List Cell) (l : List Int) : List Cell := (l.map (bV cs)).filter fun c => !pV c
def NE (cs : List Cell) : List (Int × List Cell) :=
 if allM cs = [] then (if O1 cs (ja cs) = [] then [] else [(-1, O1 cs (ja cs))])
 else ((allM cs).filter DZ).map fun f => ((f.s + 1) % cs.length, O1 cs (iy cs.length f))
theorem aan (cs : List Cell) (l : List Int) : IJ cs l = (O1 cs l).map EH := rfl
theorem Xc (cs : List Cell) : MZ cs = (NE cs).map fun y => (y.1, y.2.map EH) := by
 unfold MZ NE
 split
 ·rw [aan]
  by_cases h : O1 cs (ja cs) = []
  ·rw [if_pos h, if_pos (by rw [h]; rfl)]; rfl
  ·rw [if_neg h, if_neg (fun e => h (List.map_eq_nil_iff.1 e))]; rfl
 ·rw [List.map_map]; rfl
structure Qh (cs : List Cell) (l m : List It) : Prop where
 a : its l = MZ cs
 b : its m = NE cs
section
variable {cs : List Cell} {l m : List It} {k : Nat} {x y : It}
theorem O3 (h : l[k]? = some x) : (its l)[k]? = some (x.at', x.cs) := by unfold its; rw [List.getElem?_map, h]; rfl
theorem Qh.len (h : Qh cs l m) : l.length = m.length := by
 have h1 := congrArg List.length h.a
 rw [Xc, ← h.b, List.length_map, Jq, Jq] at h1
 exact h1
theorem Qh.eq (h : Qh cs l m) (hx : l[k]? = some x) (hy : m[k]? = some y) : x.at' = y.at' ∧ x.cs = y.cs.map EH := by
 have h1 := O3 hx
 rw [h.a, Xc, ← h.b, List.getElem?_map, O3 hy] at h1
 have h2 := Option.some.inj h1
 exact ⟨(congrArg Prod.fst h2).symm, (congrArg Prod.snd h2).symm⟩
theorem Qh.cell (h : Qh cs l m) (hx : l[k]? = some x) (hy : m[k]? = some y) {j : Nat} {c d : Cell} (hc : x.cs[j]? = some c) (hd : y.cs[j]? = some d) : c = EH d := by
 rw [(h.eq hx hy).2, List.getElem?_map, hd] at hc
 exact (Option.some.inj hc).symm
end
theorem ahM {cs : List Cell} {y : Int × List Cell} (h : y ∈ NE cs) : ∀ d ∈ y.2, d.st = false := by
 have key : ∀ {l : List Int}, (∀ i ∈ l, (bV cs i).st = false) → ∀ d ∈ O1 cs l, d.st = false := fun hl d hd => by
  obtain ⟨i, hi, rfl⟩ := List.mem_map.1 (List.mem_filter.1 hd).1
  exact hl i hi
 unfold NE at h
 split at h
 ·rename_i ha
  split at h
  ·cases h
  ·cases List.mem_singleton.1 h; exact key (ZI ha)
 ·obtain ⟨f, hf, rfl⟩ := List.mem_map.1 h
  obtain ⟨k, hk⟩ := List.getElem?_of_mem (List.mem_filter.1 hf).1
  exact key (PG hk)
theorem Qh.st {cs : List Cell} {l m : List It} {k j : Nat} {y : It} {d : Cell} (h : Qh cs l m) (hy : m[k]? = some y) (hd : y.cs[j]? = some d) : d.st = false :=
 ahM (y := (y.at', y.cs)) (h.b ▸ List.mem_of_getElem? (O3 hy)) d (List.mem_of_getElem? hd)
end Gs
end
section
namespace Go.Proofs.YtjdoakbadehicaaGreatDoor
open Go Go.Sh
set_option maxRecDepth 100000
end Go.Proofs.YtjdoakbadehicaaGreatDoor
end
