/- Part of a proof. No condition but those that its theorems state. -/
import Derived.Test.YtjdoakbadehicaaGreatDoorQd
import Derived.Test.YtjdoakbadehicaaGreatDoorQf
import Derived.Test.YtjdoakbadehicaaGreatDoorQc
set_option linter.unusedVariables false
set_option linter.unusedSimpArgs false
section
namespace Go.Proofs.YtjdoakbadehicaaGreatDoor
open Go Go.Sh
set_option maxRecDepth 100000
theorem acl {r c : Int} {A : Option Addr} {n cp bp bb B0 : Nat} {b : Gs.Br} {w : World} (af : Z.h w bp #[Z.i r, Z.i c, .slice A n cp, Z.i b.cur] 91) (ae : Own B0 w 37 5 (.slice A n cp) (rows Gs.cv b.cs)) (aN : Z.h w bb #[Z.p bp, Z.i b.at', Z.u b.lk.b, .bool b.lk.ge, .bool b.lk.st, Z.u b.lk.l, Z.u b.lk.c, .bool b.ld] 229) (hB : Gs.Bw r c n b)  :
    oX 204 #[Z.p bb] w fun e w' => ∃ v, e = .returned v ∧ Z.h w' bb #[Z.p bp, Z.i (Gs.DL b).at', Z.u (Gs.DL b).lk.b, .bool (Gs.DL b).lk.ge, .bool (Gs.DL b).lk.st, Z.u (Gs.DL b).lk.l, Z.u (Gs.DL b).lk.c, .bool (Gs.DL b).ld] 229 ∧ az (· = bb) w w' := by
 refine ZU.calls ?_
 unfold ZU
 obtain ⟨hW, hat, hlw⟩ := id hB
 obtain ⟨hn, hcw, hcu, hp, hN, hb⟩ := id hW
 have hF : az (· = bb) w w := Fr.refl _ _ _
 refine dQ (S := no) (fun w1 U1 => ?_)
 refine gK ?_
 refine Z.g 0 ?_
 replace aN := U1.ag aN
 refine Z.m aN ?_
 replace ae := ae.ai U1
 replace af := U1.ag af
 refine fU (fun w' hw' => by have af := hw'.ag af; have ae := ae.ai hw'; exact ku af ae hn) ?_
 refine gK ?_
 refine Z.g 1 ?_
 refine Z.m aN ?_
 refine fU (fun w' hw' => mO (i := b.at') (j := 1)) ?_
 rw [hN, Gs.rQ (by omega), hn]
 refine gK ?_
 refine Z.g 1 ?_
 refine aF (fun w4 U4 => ?_)
 replace aN := U4.ag aN
 refine Z.s aN (fun w5 aN _ U5 => ?_)
 replace hF := (hF.go0 U1).go0 U4
 replace hF := hF.go U5 (fun i _ h => h)
 refine aF (fun w6 U6 => ?_)
 replace aN := U6.ag aN
 replace hF := hF.go0 U6
 exact ⟨_, rfl, aN, hF⟩
theorem Gg {r c : Int} {A : Option Addr} {n cp bp bb B0 : Nat} {b : Gs.Br} {w : World} (af : Z.h w bp #[Z.i r, Z.i c, .slice A n cp, Z.i b.cur] 91) (ae : Own B0 w 37 5 (.slice A n cp) (rows Gs.cv b.cs)) (aN : Z.h w bb #[Z.p bp, Z.i b.at', Z.u b.lk.b, .bool b.lk.ge, .bool b.lk.st, Z.u b.lk.l, Z.u b.lk.c, .bool b.ld] 229) (hB : Gs.Bw r c n b) {x : Gs.Cell} (hx : Gs.Cw x) :
    oX 198 #[Z.p bb, .agg (Gs.cv x).toArray] w fun e w' => ∃ v, e = .returned v ∧ Z.h w' bb #[Z.p bp, Z.i (Gs.vP b x).at', Z.u (Gs.vP b x).lk.b, .bool (Gs.vP b x).lk.ge, .bool (Gs.vP b x).lk.st, Z.u (Gs.vP b x).lk.l, Z.u (Gs.vP b x).lk.c, .bool (Gs.vP b x).ld] 229 ∧ Own B0 w' 37 5 (.slice A n cp) (rows Gs.cv (Gs.vP b x).cs) ∧ az (fun k => aC (.slice A n cp) k ∨ k = bb) w w' := by
 refine ZP.calls ?_
 unfold ZP
 obtain ⟨hW, hat, hlw⟩ := id hB
 obtain ⟨hn, hcw, hcu, hp, hN, hb⟩ := id hW
 have hF : az (fun k => aC (.slice A n cp) k ∨ k = bb) w w := Fr.refl _ _ _
 refine Z.x ((Gs.cv x).toArray) (fun b1 w1 e1 ah _ U1 => ?_)
 refine dQ (S := no) (fun w2 U2 => ?_)
 refine gK ?_
 refine Z.g 0 ?_
 replace aN := U2.ag (U1.ag aN)
 refine Z.m aN ?_
 refine gK ?_
 refine Z.g 1 ?_
 refine Z.m aN ?_
 replace ah := U2.ag ah
 refine bi (fun w' hw' => by have ah := hw'.ag ah; exact (BH (n := 5) (cs' := (Gs.cv x).toArray) (by kernel_rfl) ah (Nat.le_of_ble_eq_true rfl) (by rfl))) ?_
 refine aF (fun w3 U3 => ?_)
 replace ae := ((ae.ai U1).ai U2).ai U3
 replace af := U3.ag (U2.ag (U1.ag af))
 refine aJ (jG af ae hn (i := b.at') (x := x)) (fun v4 w4 D4 => ?_)
 obtain ⟨rfl, N4, U4⟩ := D4
 have aK := ae
 replace af := U4.get af (fun h => Own.aP aK af (by decide) _ h rfl)
 replace ae := N4
 replace aN := U3.ag aN
 replace aN := U4.get aN (fun h => Own.aP aK aN (by decide) _ h rfl)
 replace hF := ((hF.go0 U1).go0 U2).go0 U3
 replace hF := hF.go U4 (fun i h hs => .inl hs)
 clear aK
 refine aF (fun w5 U5 => ?_)
 replace ae := ae.ai U5
 replace af := U5.ag af
 replace aN := U5.ag aN
 refine aJ (acl (b := { b with cs := Gs.jo b.cs b.at' x }) af ae aN ⟨hW.set _ hx, hat, hlw⟩) (fun v6 w6 D6 => ?_)
 obtain ⟨N6, U6⟩ := D6
 replace ae := ae.aA U6 (Own.aP ae (by assumption) (by decide))
 replace aN := N6
 replace hF := hF.go0 U5
 replace hF := hF.go U6 (fun i _ h => .inr h)
 have e : (Gs.DL { b with cs := Gs.jo b.cs b.at' x }).at' = (Gs.vP b x).at' := by show (b.at' + 1) % ((Gs.jo b.cs b.at' x).length : Int) = _; rw [Gs.mr]; rfl
 rw [e] at aN
 exact ⟨_, rfl, aN, ae, hF⟩
theorem IC {bp bb : Nat} {b : Gs.Br} {w : World} (aN : Z.h w bb #[Z.p bp, Z.i b.at', Z.u b.lk.b, .bool b.lk.ge, .bool b.lk.st, Z.u b.lk.l, Z.u b.lk.c, .bool b.ld] 229) {x : Int} {g : Bool} :
    oX 199 #[Z.p bb, Z.u x, .bool g] w fun e w' => e = .returned (.agg (Gs.cv (Gs.wo b x g)).toArray) ∧ az no w w' := by
 refine ZQ.calls ?_
 unfold ZQ
 have hF : az no w w := Fr.refl _ _ _
 refine Z.n ((Gs.cv Gs.zc).toArray) (fun b1 w1 e1 ah _ U1 => ?_)
 have bU : w.heap.size ≤ b1 := by have := hF.size; omega
 refine dQ (S := no) (fun w2 U2 => ?_)
 refine gK ?_
 refine Z.g 2 ?_
 refine Z.g 3 ?_
 replace aN := U2.ag (U1.ag aN)
 refine Z.m aN ?_
 refine gK ?_
 refine Z.g 2 ?_
 refine Z.g 4 ?_
 refine Z.m aN ?_
 refine bi (fun w' hw' => (bz (l := [(0, 1), (1, 1), (2, 1), (3, 1), (4, 1)]) (z := #[Z.u 0, .bool false, .bool false, Z.u 0, Z.u 0]) (cs := Gs.cv (Gs.wo b x g)) (by kernel_rfl) (by rfl))) ?_
 refine aF (fun w4 U4 => ?_)
 replace ah := U4.ag (U2.ag ah)
 refine Z.t 5 ((Gs.cv (Gs.wo b x g)).toArray) (by (simp [Value.cells, Value.oneCell', Gs.cv, Gs.fv, Gs.ie, Gs.pe, Gs.oe, Gs.bT, Gs.fe, Gs.fC, Gs.ce, Gs.dX]; done)) ah (fun w5 ah _ U5 => ?_)
 refine aF (fun w6 U6 => ?_)
 replace ah := U6.ag ah
 refine Z.a 5 ah ?_
 replace hF := ((((hF.go0 U1).go0 U2).go0 U4).go1 U5 bU).go0 U6
 exact ⟨rfl, hF⟩
theorem Ci {c : Gs.Cell} {ps : List Gs.Pr} {A : Option Addr} {n cp : Nat} {w : World} (bC : Rd w A (rows Gs.pe ps)) (hn : n = ps.length) (hb : n ≤ 100000) (hpw : ∀ p ∈ ps, Gs.Xq p) :
    oX 200 #[.agg (Gs.cv c).toArray, .slice A n cp] w fun e w' => e = .returned (.agg (Gs.cv (Gs.oJ c ps)).toArray) ∧ az no w w' := by
 refine ZR.calls ?_
 unfold ZR
 subst hn
 have hF : az no w w := Fr.refl _ _ _
 refine Z.x ((Gs.cv c).toArray) (fun b1 w1 e1 ah _ U1 => ?_)
 have ry := bC.apart e1
 have bU : w.heap.size ≤ b1 := by have := hF.size; omega
 refine Z.n ((Gs.cv Gs.zc).toArray) (fun b2 w2 e2 ax _ U2 => ?_)
 have lJ : b1 ≠ b2 := by have := au ah; omega
 replace hF := hF.go0 U1
 have fF : w.heap.size ≤ b2 := by have := hF.size; omega
 refine bH (fun g w' => (Z.h w' b1 ((Gs.cv (Gs.oJ c ps)).toArray) 37) ∧ (Z.h w' b2 ((Gs.cv Gs.zc).toArray) 37) ∧ (az no w w')) (fun J1 hJ1 => ?_) (fun gJ1 jX hI => ?_)
 refine aj (gm (by kernel_rfl) _ _ _) ?_
 refine dW (fun g w' => ∃ (k : Nat), (g 9 = Z.i (k : Int)) ∧ (k ≤ ps.length) ∧ (Z.h w' b1 ((Gs.cv (Gs.oJ c (ps.take k))).toArray) 37) ∧ (Z.h w' b2 ((Gs.cv Gs.zc).toArray) 37) ∧ (Rd w' A (rows Gs.pe ps)) ∧ (az no w w')) (fun g w' => ps.length - (RowKit.intOf (g 9)).toNat) ?_ (fun g2 qj hI => ?_)
 replace bC := (bC.ai U1).ai U2
 replace ah := U2.ag ah
 replace hF := hF.go0 U2
 exact ⟨0, (by rfl), Nat.zero_le _, ah, ax, bC, hF⟩
 replace bC := (bC.ai U1).ai U2
 replace ah := U2.ag ah
 replace hF := hF.go0 U2
 obtain ⟨k, g9, hk, ah, ax, bC, hF⟩ := hI
 rw [g9]
 refine ay (lss _ _ _ _) (fun h3 => ?_) (fun h3 => ?_)
 refine aH ?_
 refine bH (fun g w' => (Z.h w' b1 ((Gs.cv (Gs.oJ c (ps.take (k + 1)))).toArray) 37) ∧ (Z.h w' b2 ((Gs.cv Gs.zc).toArray) 37) ∧ (Rd w' A (rows Gs.pe ps)) ∧ (az no w w')) (fun J3 hJ3 => ?_) (fun gJ3 Ha hI => ?_)
 refine pK Gs.Bf (by kernel_rfl) (by kernel_rfl) bC (by rfl) (by omega) (by omega) (fun x4 hx4 => ?_)
 simp only [Int.toNat_natCast] at hx4
 have hpx := hpw _ (List.mem_of_getElem? hx4)
 have hpv := hpx.2
 refine Z.n ((Gs.pe Gs.zpr).toArray) (fun b5 w5 e5 bV _ U5 => ?_)
 have ik : b1 ≠ b5 := by have := au ah; omega
 have mY : b2 ≠ b5 := by have := au ax; omega
 have Aa := bC.apart e5
 have iF : w.heap.size ≤ b5 := by have := hF.size; omega
 refine Z.t 2 ((Gs.pe x4).toArray) (by (simp [Value.cells, Value.oneCell', Gs.cv, Gs.fv, Gs.ie, Gs.pe, Gs.oe, Gs.bT, Gs.fe, Gs.fC, Gs.ce, Gs.dX]; done)) bV (fun w6 bV _ U6 => ?_)
 refine Z.f 0 ?_
 refine Z.l bV ?_
 refine ay (dC _ _ _ _ _) (fun h7 => ?_) (fun h7 => ?_)
 refine aH ?_
 refine Z.f 1 ?_
 refine Z.l bV ?_
 refine aj (EC _ (by omega)) ?_
 refine Z.f 0 ?_
 replace ah := U6.ak (U5.ag ah) ik
 refine Z.s ah (fun w8 ah _ U8 => ?_)
 refine hJ3 _ _ ?_
 replace bC := ((bC.ai U5).aA U6 Aa).aA U8 ry
 replace ax := U8.ak (U6.ak (U5.ag ax) mY) (Ne.symm lJ)
 replace hF := ((hF.go0 U5).go1 U6 iF).go1 U8 bU
 exact ⟨(by rw [Gs.yB hx4]; unfold Gs.wU; (rw [if_pos (by assumption)]; exact ah)), ax, bC, hF⟩
 refine aB ?_
 refine ay (dC _ _ _ _ _) (fun h9 => ?_) (fun h9 => ?_)
 refine aH ?_
 refine Z.f 1 ?_
 refine Z.l bV ?_
 refine Z.f 3 ?_
 replace ah := U6.ak (U5.ag ah) ik
 refine Z.s ah (fun w10 ah _ aT => ?_)
 refine hJ3 _ _ ?_
 replace bC := ((bC.ai U5).aA U6 Aa).aA aT ry
 replace ax := aT.ak (U6.ak (U5.ag ax) mY) (Ne.symm lJ)
 replace hF := ((hF.go0 U5).go1 U6 iF).go1 aT bU
 exact ⟨(by rw [Gs.yB hx4]; unfold Gs.wU; (rw [if_neg (by assumption), if_pos (by assumption)]; exact ah)), ax, bC, hF⟩
 refine aB ?_
 refine ay (dC _ _ _ _ _) (fun h11 => ?_) (fun h11 => ?_)
 refine aH ?_
 refine Z.f 1 ?_
 refine Z.l bV ?_
 refine Z.f 4 ?_
 replace ah := U6.ak (U5.ag ah) ik
 refine Z.s ah (fun w12 ah _ cZ => ?_)
 refine hJ3 _ _ ?_
 replace bC := ((bC.ai U5).aA U6 Aa).aA cZ ry
 replace ax := cZ.ak (U6.ak (U5.ag ax) mY) (Ne.symm lJ)
 replace hF := ((hF.go0 U5).go1 U6 iF).go1 cZ bU
 exact ⟨(by rw [Gs.yB hx4]; unfold Gs.wU; (rw [if_neg (by assumption), if_neg (by assumption), if_pos (by assumption)]; exact ah)), ax, bC, hF⟩
 refine aB ?_
 refine ay (dC _ _ _ _ _) (fun h13 => ?_) (fun h13 => ?_)
 refine aH ?_
 refine Z.f 3 ?_
 replace ah := U6.ak (U5.ag ah) ik
 refine Z.s ah (fun sJ ah _ dw => ?_)
 refine Z.f 4 ?_
 refine Z.s ah (fun uN ah _ dH => ?_)
 refine hJ3 _ _ ?_
 replace bC := (((bC.ai U5).aA U6 Aa).aA dw ry).aA dH ry
 replace ax := dH.ak (dw.ak (U6.ak (U5.ag ax) mY) (Ne.symm lJ)) (Ne.symm lJ)
 replace hF := (((hF.go0 U5).go1 U6 iF).go1 dw bU).go1 dH bU
 exact ⟨(by rw [Gs.yB hx4]; unfold Gs.wU; (rw [if_neg (by assumption), if_neg (by assumption), if_neg (by assumption), if_pos (by assumption)]; exact ah)), ax, bC, hF⟩
 refine aB ?_
 refine hJ3 _ _ ?_
 replace bC := (bC.ai U5).aA U6 Aa
 replace ah := U6.ak (U5.ag ah) ik
 replace ax := U6.ak (U5.ag ax) mY
 replace hF := (hF.go0 U5).go1 U6 iF
 exact ⟨(by rw [Gs.yB hx4]; unfold Gs.wU; (rw [if_neg (by assumption), if_neg (by assumption), if_neg (by assumption), if_neg (by assumption)]; exact ah)), ax, bC, hF⟩
 obtain ⟨ah, ax, bC, hF⟩ := hI
 refine aj (dF _ (by omega)) ?_
 exact ⟨⟨k + 1, (by rfl), by omega, ah, ax, bC, hF⟩, cnt_lt (by rfl) rfl (by omega)⟩
 refine aB ?_
 refine hJ1 _ _ ?_
 exact ⟨(by rw [List.take_of_length_le (by omega)] at ah; exact ah), ax, hF⟩
 replace ah := U2.ag ah
 replace hF := hF.go0 U2
 obtain ⟨ah, ax, hF⟩ := hI
 refine Z.b 5 ((Gs.cv (Gs.oJ c ps)).toArray) ah ?_
 refine Z.t 5 ((Gs.cv (Gs.oJ c ps)).toArray) (by (simp [Value.cells, Value.oneCell', Gs.cv, Gs.fv, Gs.ie, Gs.pe, Gs.oe, Gs.bT, Gs.fe, Gs.fC, Gs.ce, Gs.dX]; done)) ax (fun w16 ax _ bZ => ?_)
 refine Z.a 5 ax ?_
 replace hF := hF.go1 bZ fF
 exact ⟨rfl, hF⟩
theorem acm {r c : Int} {A : Option Addr} {n cp bp bb B0 : Nat} {b : Gs.Br} {w : World} (af : Z.h w bp #[Z.i r, Z.i c, .slice A n cp, Z.i b.cur] 91) (ae : Own B0 w 37 5 (.slice A n cp) (rows Gs.cv b.cs)) (aN : Z.h w bb #[Z.p bp, Z.i b.at', Z.u b.lk.b, .bool b.lk.ge, .bool b.lk.st, Z.u b.lk.l, Z.u b.lk.c, .bool b.ld] 229) (hB : Gs.Bw r c n b) {o : Gs.iV} (dK : Gs.kz w [o]) (hwo : Gs.yL o) (hlo : o.ds.length ≤ 100000 ∧ o.ps.length ≤ 100000) (na1 : [o] = [] ∨ ∀ k, Gs.jI [o] k → ¬ aC (.slice A n cp) k) (na2 : [o] = [] ∨ ∀ k, Gs.jI [o] k → k ≠ bp) (na3 : [o] = [] ∨ ∀ k, Gs.jI [o] k → k ≠ bb) :
    oX 182 #[Z.p bb, .agg (Gs.oe o).toArray] w fun e w' => ∃ v, e = .returned v ∧ v = Z.i (Gs.xn o.m b).2 ∧ Z.h w' bp #[Z.i r, Z.i c, .slice A n cp, Z.i (Gs.xn o.m b).1.cur] 91 ∧ Own B0 w' 37 5 (.slice A n cp) (rows Gs.cv (Gs.xn o.m b).1.cs) ∧ Z.h w' bb #[Z.p bp, Z.i (Gs.xn o.m b).1.at', Z.u (Gs.xn o.m b).1.lk.b, .bool (Gs.xn o.m b).1.lk.ge, .bool (Gs.xn o.m b).1.lk.st, Z.u (Gs.xn o.m b).1.lk.l, Z.u (Gs.xn o.m b).1.lk.c, .bool (Gs.xn o.m b).1.ld] 229 ∧ az (fun k => (aC (.slice A n cp) k ∨ k = bp) ∨ k = bb) w w' := by
 refine ZE.calls ?_
 unfold ZE
 obtain ⟨hW, hat, hlw⟩ := id hB
 obtain ⟨hn, hcw, hcu, hp, hN, hb⟩ := id hW
 obtain ⟨hok, hob, hod, hop⟩ := id hwo
 have hF : az (fun k => (aC (.slice A n cp) k ∨ k = bp) ∨ k = bb) w w := Fr.refl _ _ _
 refine Z.x ((Gs.oe o).toArray) (fun b1 w1 e1 ah _ U1 => ?_)
 refine bH (fun g w' => (Z.h w' bp #[Z.i r, Z.i c, .slice A n cp, Z.i (Gs.lW o.ds b).cur] 91) ∧ (Own B0 w' 37 5 (.slice A n cp) (rows Gs.cv (Gs.lW o.ds b).cs)) ∧ (Z.h w' bb #[Z.p bp, Z.i (Gs.lW o.ds b).at', Z.u (Gs.lW o.ds b).lk.b, .bool (Gs.lW o.ds b).lk.ge, .bool (Gs.lW o.ds b).lk.st, Z.u (Gs.lW o.ds b).lk.l, Z.u (Gs.lW o.ds b).lk.c, .bool (Gs.lW o.ds b).ld] 229) ∧ (az (fun k => (aC (.slice A n cp) k ∨ k = bp) ∨ k = bb) w w')) (fun J1 hJ1 => ?_) (fun gJ1 jX hI => ?_)
 refine Z.f 5 ?_
 refine Z.l ah ?_
 refine aj (gm (by kernel_rfl) _ _ _) ?_
 refine dW (fun g w' => ∃ (k : Nat), (g 10 = Z.i (k : Int)) ∧ (k ≤ o.ds.length) ∧ (Z.h w' bp #[Z.i r, Z.i c, .slice A n cp, Z.i (Gs.lW (o.ds.take k) b).cur] 91) ∧ (Own B0 w' 37 5 (.slice A n cp) (rows Gs.cv (Gs.lW (o.ds.take k) b).cs)) ∧ (Z.h w' bb #[Z.p bp, Z.i (Gs.lW (o.ds.take k) b).at', Z.u (Gs.lW (o.ds.take k) b).lk.b, .bool (Gs.lW (o.ds.take k) b).lk.ge, .bool (Gs.lW (o.ds.take k) b).lk.st, Z.u (Gs.lW (o.ds.take k) b).lk.l, Z.u (Gs.lW (o.ds.take k) b).lk.c, .bool (Gs.lW (o.ds.take k) b).ld] 229) ∧ (Gs.kz w' [o]) ∧ (az (fun k => (aC (.slice A n cp) k ∨ k = bp) ∨ k = bb) w w')) (fun g w' => o.ds.length - (RowKit.intOf (g 10)).toNat) ?_ (fun g2 qj hI => ?_)
 replace ae := ae.ai U1
 replace dK := dK.ai U1
 replace af := U1.ag af
 replace aN := U1.ag aN
 replace hF := hF.go0 U1
 exact ⟨0, (by rfl), Nat.zero_le _, af, ae, aN, dK, hF⟩
 replace ae := ae.ai U1
 replace dK := dK.ai U1
 replace af := U1.ag af
 replace aN := U1.ag aN
 replace hF := hF.go0 U1
 obtain ⟨k, g10, hk, af, ae, aN, dK, hF⟩ := hI
 rw [g10]
 have hBk : Gs.Bw r c n (Gs.lW (o.ds.take k) b) := hB.data (fun x hx => hod x (List.mem_of_mem_take hx))
 have hnk := hBk.hn
 refine ay (lss _ _ _ _) (fun h2 => ?_) (fun h2 => ?_)
 refine aH ?_
 refine mJ (by kernel_rfl) (by kernel_rfl) dK.d (by rfl) (by omega) (by omega) (fun x3 hx3 => ?_)
 simp only [Int.toNat_natCast] at hx3
 refine aG (IC (b := (Gs.lW (o.ds.take k) b)) aN (x := x3) (g := false)) (fun w4 U4 => ?_)
 replace ae := ae.ai U4
 replace af := U4.ag af
 replace aN := U4.ag aN
 refine aJ (Gg (b := (Gs.lW (o.ds.take k) b)) af ae aN hBk (x := Gs.wo (Gs.lW (o.ds.take k) b) x3 false) (Gs.IE (hod.get hx3) _)) (fun v5 w5 D5 => ?_)
 obtain ⟨M5, N5, U5⟩ := D5
 have aK := ae
 replace ae := N5
 replace dK := dK.ai U4
 replace dK := dK.eH U5 (na1.elim .inl fun h1 => na3.imp_right fun h2 k hk hs => Or.elim (show aC _ _ ∨ _ = _ from hs) (h1 k hk) (fun hb => h2 k hk hb))
 replace af := U5.get af (fun hs => Or.elim (show aC _ _ ∨ _ = _ from hs) (fun h => Own.aP aK af (by decide) _ h rfl) (fun hb => absurd hb (by exact fE (by assumption) (by assumption) (by decide))))
 replace aN := M5
 replace hF := hF.go0 U4
 replace hF := hF.go U5 (fun i h hs => Or.elim (show aC _ _ ∨ _ = _ from hs) (fun hs => .inl (.inl hs)) (fun hb => by (subst hb; omega)))
 clear aK
 refine aj (dF _ (by omega)) ?_
 exact ⟨⟨k + 1, (by rfl), by omega, (by rw [Gs.Gh hx3]; exact af), (by rw [Gs.Gh hx3]; exact ae), (by rw [Gs.Gh hx3]; exact aN), dK, hF⟩, cnt_lt (by rfl) rfl (by omega)⟩
 refine aB ?_
 refine hJ1 _ _ ?_
 exact ⟨(by rw [List.take_of_length_le (by omega)] at af; exact af), (by rw [List.take_of_length_le (by omega)] at ae; exact ae), (by rw [List.take_of_length_le (by omega)] at aN; exact aN), hF⟩
 replace ae := ae.ai U1
 replace af := U1.ag af
 replace aN := U1.ag aN
 replace hF := hF.go0 U1
 obtain ⟨af, ae, aN, hF⟩ := hI
 exact ⟨_, rfl, rfl, af, ae, aN, hF⟩
theorem TW {r c : Int} {A : Option Addr} {n cp bp bb B0 : Nat} {b : Gs.Br} {w : World} (af : Z.h w bp #[Z.i r, Z.i c, .slice A n cp, Z.i b.cur] 91) (ae : Own B0 w 37 5 (.slice A n cp) (rows Gs.cv b.cs)) (aN : Z.h w bb #[Z.p bp, Z.i b.at', Z.u b.lk.b, .bool b.lk.ge, .bool b.lk.st, Z.u b.lk.l, Z.u b.lk.c, .bool b.ld] 229) (hB : Gs.Bw r c n b) {o : Gs.iV} (dK : Gs.kz w [o]) (hwo : Gs.yL o) (hlo : o.ds.length ≤ 100000 ∧ o.ps.length ≤ 100000) (na1 : [o] = [] ∨ ∀ k, Gs.jI [o] k → ¬ aC (.slice A n cp) k) (na2 : [o] = [] ∨ ∀ k, Gs.jI [o] k → k ≠ bp) (na3 : [o] = [] ∨ ∀ k, Gs.jI [o] k → k ≠ bb) :
    oX 183 #[Z.p bb, .agg (Gs.oe o).toArray] w fun e w' => ∃ v, e = .returned v ∧ v = Z.i (Gs.xq o.m b).2 ∧ Z.h w' bp #[Z.i r, Z.i c, .slice A n cp, Z.i (Gs.xq o.m b).1.cur] 91 ∧ Own B0 w' 37 5 (.slice A n cp) (rows Gs.cv (Gs.xq o.m b).1.cs) ∧ Z.h w' bb #[Z.p bp, Z.i (Gs.xq o.m b).1.at', Z.u (Gs.xq o.m b).1.lk.b, .bool (Gs.xq o.m b).1.lk.ge, .bool (Gs.xq o.m b).1.lk.st, Z.u (Gs.xq o.m b).1.lk.l, Z.u (Gs.xq o.m b).1.lk.c, .bool (Gs.xq o.m b).1.ld] 229 ∧ az (fun k => (aC (.slice A n cp) k ∨ k = bp) ∨ k = bb) w w' := by
 refine ZF.calls ?_
 unfold ZF
 obtain ⟨hW, hat, hlw⟩ := id hB
 obtain ⟨hn, hcw, hcu, hp, hN, hb⟩ := id hW
 obtain ⟨hok, hob, hod, hop⟩ := id hwo
 have hF : az (fun k => (aC (.slice A n cp) k ∨ k = bp) ∨ k = bb) w w := Fr.refl _ _ _
 refine Z.x ((Gs.oe o).toArray) (fun b1 w1 e1 ah _ U1 => ?_)
 refine Z.f 2 ?_
 refine Z.l ah ?_
 replace aN := U1.ag aN
 refine aG (IC aN (x := o.b) (g := true)) (fun w2 U2 => ?_)
 replace ae := (ae.ai U1).ai U2
 replace af := U2.ag (U1.ag af)
 replace aN := U2.ag aN
 refine aJ (Gg (b := b) af ae aN hB (x := Gs.wo b o.b true) (Gs.IE hob _)) (fun v3 w3 D3 => ?_)
 obtain ⟨M3, N3, U3⟩ := D3
 have aK := ae
 replace ae := N3
 replace af := U3.get af (fun hs => Or.elim (show aC _ _ ∨ _ = _ from hs) (fun h => Own.aP aK af (by decide) _ h rfl) (fun hb => absurd hb (by exact fE (by assumption) (by assumption) (by decide))))
 replace aN := M3
 replace hF := (hF.go0 U1).go0 U2
 replace hF := hF.go U3 (fun i h hs => Or.elim (show aC _ _ ∨ _ = _ from hs) (fun hs => .inl (.inl hs)) (fun hb => by (subst hb; omega)))
 clear aK
 exact ⟨_, rfl, rfl, af, ae, aN, hF⟩
theorem IG {r c : Int} {A : Option Addr} {n cp bp bb B0 : Nat} {b : Gs.Br} {w : World} (af : Z.h w bp #[Z.i r, Z.i c, .slice A n cp, Z.i b.cur] 91) (ae : Own B0 w 37 5 (.slice A n cp) (rows Gs.cv b.cs)) (aN : Z.h w bb #[Z.p bp, Z.i b.at', Z.u b.lk.b, .bool b.lk.ge, .bool b.lk.st, Z.u b.lk.l, Z.u b.lk.c, .bool b.ld] 229) (hB : Gs.Bw r c n b) {o : Gs.iV} (dK : Gs.kz w [o]) (hwo : Gs.yL o) (hlo : o.ds.length ≤ 100000 ∧ o.ps.length ≤ 100000) (na1 : [o] = [] ∨ ∀ k, Gs.jI [o] k → ¬ aC (.slice A n cp) k) (na2 : [o] = [] ∨ ∀ k, Gs.jI [o] k → k ≠ bp) (na3 : [o] = [] ∨ ∀ k, Gs.jI [o] k → k ≠ bb) :
    oX 184 #[Z.p bb, .agg (Gs.oe o).toArray] w fun e w' => ∃ v, e = .returned v ∧ v = Z.i (Gs.oZ o.m b).2 ∧ Z.h w' bp #[Z.i r, Z.i c, .slice A n cp, Z.i (Gs.oZ o.m b).1.cur] 91 ∧ Own B0 w' 37 5 (.slice A n cp) (rows Gs.cv (Gs.oZ o.m b).1.cs) ∧ Z.h w' bb #[Z.p bp, Z.i (Gs.oZ o.m b).1.at', Z.u (Gs.oZ o.m b).1.lk.b, .bool (Gs.oZ o.m b).1.lk.ge, .bool (Gs.oZ o.m b).1.lk.st, Z.u (Gs.oZ o.m b).1.lk.l, Z.u (Gs.oZ o.m b).1.lk.c, .bool (Gs.oZ o.m b).1.ld] 229 ∧ az (fun k => (aC (.slice A n cp) k ∨ k = bp) ∨ k = bb) w w' := by
 refine ZG.calls ?_
 unfold ZG
 obtain ⟨hW, hat, hlw⟩ := id hB
 obtain ⟨hn, hcw, hcu, hp, hN, hb⟩ := id hW
 have hF : az (fun k => (aC (.slice A n cp) k ∨ k = bp) ∨ k = bb) w w := Fr.refl _ _ _
 refine Z.x ((Gs.oe o).toArray) (fun b1 w1 e1 ah _ U1 => ?_)
 refine dQ (S := no) (fun w2 U2 => ?_)
 refine Z.g 1 ?_
 replace ah := U2.ag ah
 refine Z.m ah ?_
 refine jR (fun w' hw' => (lss _ _ _ _)) (fun h3 => ?_) (fun h3 => ?_)
 refine jr (jr (jr (jr (jr (jr (jr (jr (jS ?_))))))))
 refine aF (fun w4 U4 => ?_)
 refine aH ?_
 replace ae := ((ae.ai U1).ai U2).ai U4
 replace af := U4.ag (U2.ag (U1.ag af))
 replace aN := U4.ag (U2.ag (U1.ag aN))
 replace hF := ((hF.go0 U1).go0 U2).go0 U4
 rw [Gs.Jp (o := o.m) (b := b) (by show o.a < 0 ∨ (b.cs.length : Int) ≤ o.a; omega)]; exact ⟨_, rfl, rfl, af, ae, aN, hF⟩
 refine bF ?_
 refine Z.g 1 ?_
 refine bF ?_
 refine Z.m ah ?_
 refine bF (eQ (bF ?_))
 refine gK ?_
 refine bF ?_
 refine Z.g 0 ?_
 refine bF ?_
 replace aN := U2.ag (U1.ag aN)
 refine Z.m aN ?_
 refine bF ?_
 replace ae := (ae.ai U1).ai U2
 replace af := U2.ag (U1.ag af)
 refine fU (fun w' hw' => by have af := hw'.ag af; have ae := ae.ai hw'; exact eY af ae hn) ?_
 refine bF ?_
 refine jR (fun w' hw' => (geq _ _ _ _)) (fun h7 => ?_) (fun h7 => ?_)
 refine fP ?_
 refine aF (fun w8 U8 => ?_)
 refine aH ?_
 replace hF := ((hF.go0 U1).go0 U2).go0 U8
 replace ae := ae.ai U8
 replace af := U8.ag af
 replace aN := U8.ag aN
 rw [Gs.Jp (o := o.m) (b := b) (by show o.a < 0 ∨ (b.cs.length : Int) ≤ o.a; omega)]; exact ⟨_, rfl, rfl, af, ae, aN, hF⟩
 refine fP ?_
 refine aF (fun w10 aT => ?_)
 refine aB ?_
 refine Z.f 1 ?_
 replace ah := aT.ag ah
 refine Z.l ah ?_
 refine dm ?_
 refine Z.f 1 ?_
 replace aN := aT.ag aN
 refine Z.s aN (fun oz aN _ bK => ?_)
 replace ae := ae.ai aT
 replace ae := ae.aA bK (Own.aP ae (by assumption) (by decide))
 replace af := aT.ag af
 replace af := bK.ak af (by exact fE (by assumption) (by assumption) (by decide))
 replace hF := ((hF.go0 U1).go0 U2).go0 aT
 replace hF := hF.go bK (fun i _ h => .inr h)
 rw [Gs.Jq (o := o.m) (b := b) (by show ¬ (o.a < 0 ∨ (b.cs.length : Int) ≤ o.a); omega)]; exact ⟨_, rfl, rfl, af, ae, aN, hF⟩
theorem aao {r c : Int} {A : Option Addr} {n cp bp bb B0 : Nat} {b : Gs.Br} {w : World} (af : Z.h w bp #[Z.i r, Z.i c, .slice A n cp, Z.i b.cur] 91) (ae : Own B0 w 37 5 (.slice A n cp) (rows Gs.cv b.cs)) (aN : Z.h w bb #[Z.p bp, Z.i b.at', Z.u b.lk.b, .bool b.lk.ge, .bool b.lk.st, Z.u b.lk.l, Z.u b.lk.c, .bool b.ld] 229) (hB : Gs.Bw r c n b) {o : Gs.iV} (dK : Gs.kz w [o]) (hwo : Gs.yL o) (hlo : o.ds.length ≤ 100000 ∧ o.ps.length ≤ 100000) (na1 : [o] = [] ∨ ∀ k, Gs.jI [o] k → ¬ aC (.slice A n cp) k) (na2 : [o] = [] ∨ ∀ k, Gs.jI [o] k → k ≠ bp) (na3 : [o] = [] ∨ ∀ k, Gs.jI [o] k → k ≠ bb) :
    oX 185 #[Z.p bb, .agg (Gs.oe o).toArray] w fun e w' => ∃ v, e = .returned v ∧ v = Z.i (Gs.uu o.m b).2 ∧ Z.h w' bp #[Z.i r, Z.i c, .slice A n cp, Z.i (Gs.uu o.m b).1.cur] 91 ∧ Own B0 w' 37 5 (.slice A n cp) (rows Gs.cv (Gs.uu o.m b).1.cs) ∧ Z.h w' bb #[Z.p bp, Z.i (Gs.uu o.m b).1.at', Z.u (Gs.uu o.m b).1.lk.b, .bool (Gs.uu o.m b).1.lk.ge, .bool (Gs.uu o.m b).1.lk.st, Z.u (Gs.uu o.m b).1.lk.l, Z.u (Gs.uu o.m b).1.lk.c, .bool (Gs.uu o.m b).1.ld] 229 ∧ az (fun k => (aC (.slice A n cp) k ∨ k = bp) ∨ k = bb) w w' := by
 refine ZH.calls ?_
 unfold ZH
 obtain ⟨hW, hat, hlw⟩ := id hB
 obtain ⟨hn, hcw, hcu, hp, hN, hb⟩ := id hW
 obtain ⟨hok, hob, hod, hop⟩ := id hwo
 have hF : az (fun k => (aC (.slice A n cp) k ∨ k = bp) ∨ k = bb) w w := Fr.refl _ _ _
 refine Z.x ((Gs.oe o).toArray) (fun b1 w1 e1 ah _ U1 => ?_)
 refine aj (bz (l := [(0, 1), (1, 1), (2, 1), (3, 1), (4, 1)]) (z := #[Z.u 0, .bool false, .bool false, Z.u 0, Z.u 0]) (cs := Gs.cv ⟨0, false, true, 0, 0⟩) (by kernel_rfl) (by rfl)) ?_
 refine Z.n ((Gs.cv Gs.zc).toArray) (fun b3 w3 e3 aS _ U3 => ?_)
 replace af := U1.ag af
 have jO : bp ≠ b3 := by have := au af; omega
 replace ae := ae.ai U1
 have gU := ae.apart e3
 replace aN := U1.ag aN
 have Cj : bb ≠ b3 := by have := au aN; omega
 replace dK := dK.ai U1
 have xR := dK.apart e3
 have lM : b1 ≠ b3 := by have := au ah; omega
 replace hF := hF.go0 U1
 have jk : w.heap.size ≤ b3 := by have := hF.size; omega
 refine Z.t 5 ((Gs.cv ⟨0, false, true, 0, 0⟩).toArray) (by (simp [Value.cells, Value.oneCell', Gs.cv, Gs.fv, Gs.ie, Gs.pe, Gs.oe, Gs.bT, Gs.fe, Gs.fC, Gs.ce, Gs.dX]; done)) aS (fun w4 aS _ U4 => ?_)
 refine bH (fun g w' => ∃ (x : Gs.Cell), (Z.h w' b3 ((Gs.cv x).toArray) 37) ∧ (x = ((if o.k = 29 then ⟨o.b % 64, false, true, 0, 0⟩ else Gs.oJ ⟨0, false, true, 0, 0⟩ o.ps) : Gs.Cell)) ∧ (Gs.Cw x) ∧ (Z.h w' bp #[Z.i r, Z.i c, .slice A n cp, Z.i b.cur] 91) ∧ (Own B0 w' 37 5 (.slice A n cp) (rows Gs.cv b.cs)) ∧ (Z.h w' bb #[Z.p bp, Z.i b.at', Z.u b.lk.b, .bool b.lk.ge, .bool b.lk.st, Z.u b.lk.l, Z.u b.lk.c, .bool b.ld] 229) ∧ (az (fun k => (aC (.slice A n cp) k ∨ k = bp) ∨ k = bb) w w')) (fun J1 hJ1 => ?_) (fun gJ1 jX hI => ?_)
 refine Z.f 0 ?_
 replace ah := U4.ak (U3.ag ah) lM
 refine Z.l ah ?_
 refine ay (dC _ _ _ _ _) (fun h5 => ?_) (fun h5 => ?_)
 refine aH ?_
 refine Z.f 2 ?_
 refine Z.l ah ?_
 refine aj (EC _ (by omega)) ?_
 refine Z.f 0 ?_
 refine Z.s aS (fun w6 aS _ U6 => ?_)
 refine hJ1 _ _ ?_
 replace ae := ((ae.ai U3).aA U4 gU).aA U6 gU
 replace af := U6.ak (U4.ak (U3.ag af) jO) jO
 replace aN := U6.ak (U4.ak (U3.ag aN) Cj) Cj
 replace hF := ((hF.go0 U3).go1 U4 jk).go1 U6 jk
 exact ⟨⟨o.b % 64, false, true, 0, 0⟩, aS, (by rw [if_pos (by assumption)]), (show 0 ≤ o.b % 64 ∧ o.b % 64 ≤ 255 by omega), af, ae, aN, hF⟩
 refine aB ?_
 refine Z.b 5 ((Gs.cv ⟨0, false, true, 0, 0⟩).toArray) aS ?_
 refine Z.f 4 ?_
 refine Z.l ah ?_
 replace dK := (dK.ai U3).aA U4 xR
 refine aG (Ci (c := ⟨0, false, true, 0, 0⟩) dK.p rfl hlo.2 hop) (fun w7 U7 => ?_)
 replace aS := U7.ag aS
 refine Z.t 5 ((Gs.cv (Gs.oJ ⟨0, false, true, 0, 0⟩ o.ps)).toArray) (by (simp [Value.cells, Value.oneCell', Gs.cv, Gs.fv, Gs.ie, Gs.pe, Gs.oe, Gs.bT, Gs.fe, Gs.fC, Gs.ce, Gs.dX]; done)) aS (fun w8 aS _ U8 => ?_)
 refine hJ1 _ _ ?_
 replace ae := (((ae.ai U3).aA U4 gU).ai U7).aA U8 gU
 replace af := U8.ak (U7.ag (U4.ak (U3.ag af) jO)) jO
 replace aN := U8.ak (U7.ag (U4.ak (U3.ag aN) Cj)) Cj
 replace hF := (((hF.go0 U3).go1 U4 jk).go0 U7).go1 U8 jk
 exact ⟨(Gs.oJ ⟨0, false, true, 0, 0⟩ o.ps), aS, (by rw [if_neg (by assumption)]), Gs.Cm (show (0 : Int) ≤ 0 ∧ (0 : Int) ≤ 255 by decide), af, ae, aN, hF⟩
 replace ae := (ae.ai U3).aA U4 gU
 replace af := U4.ak (U3.ag af) jO
 replace aN := U4.ak (U3.ag aN) Cj
 replace hF := (hF.go0 U3).go1 U4 jk
 obtain ⟨x, aS, hx, hxw, af, ae, aN, hF⟩ := hI
 refine Z.b 5 ((Gs.cv x).toArray) aS ?_
 refine aJ (Gg (b := b) af ae aN hB (x := x) hxw) (fun v9 w9 D9 => ?_)
 obtain ⟨M9, N9, U9⟩ := D9
 have aK := ae
 replace ae := N9
 replace af := U9.get af (fun hs => Or.elim (show aC _ _ ∨ _ = _ from hs) (fun h => Own.aP aK af (by decide) _ h rfl) (fun hb => absurd hb (by exact fE (by assumption) (by assumption) (by decide))))
 replace aN := M9
 replace hF := hF.go U9 (fun i h hs => Or.elim (show aC _ _ ∨ _ = _ from hs) (fun hs => .inl (.inl hs)) (fun hb => by (subst hb; omega)))
 clear aK
 subst hx
 exact ⟨_, rfl, rfl, af, ae, aN, hF⟩
theorem aap {r c : Int} {A : Option Addr} {n cp bp bb B0 : Nat} {b : Gs.Br} {w : World} (af : Z.h w bp #[Z.i r, Z.i c, .slice A n cp, Z.i b.cur] 91) (ae : Own B0 w 37 5 (.slice A n cp) (rows Gs.cv b.cs)) (aN : Z.h w bb #[Z.p bp, Z.i b.at', Z.u b.lk.b, .bool b.lk.ge, .bool b.lk.st, Z.u b.lk.l, Z.u b.lk.c, .bool b.ld] 229) (hB : Gs.Bw r c n b) {o : Gs.iV} (dK : Gs.kz w [o]) (hwo : Gs.yL o) (hlo : o.ds.length ≤ 100000 ∧ o.ps.length ≤ 100000) (na1 : [o] = [] ∨ ∀ k, Gs.jI [o] k → ¬ aC (.slice A n cp) k) (na2 : [o] = [] ∨ ∀ k, Gs.jI [o] k → k ≠ bp) (na3 : [o] = [] ∨ ∀ k, Gs.jI [o] k → k ≠ bb) :
    oX 186 #[Z.p bb, .agg (Gs.oe o).toArray] w fun e w' => ∃ v, e = .returned v ∧ v = Z.i (Gs.uw o.m b).2 ∧ Z.h w' bp #[Z.i r, Z.i c, .slice A n cp, Z.i (Gs.uw o.m b).1.cur] 91 ∧ Own B0 w' 37 5 (.slice A n cp) (rows Gs.cv (Gs.uw o.m b).1.cs) ∧ Z.h w' bb #[Z.p bp, Z.i (Gs.uw o.m b).1.at', Z.u (Gs.uw o.m b).1.lk.b, .bool (Gs.uw o.m b).1.lk.ge, .bool (Gs.uw o.m b).1.lk.st, Z.u (Gs.uw o.m b).1.lk.l, Z.u (Gs.uw o.m b).1.lk.c, .bool (Gs.uw o.m b).1.ld] 229 ∧ az (fun k => (aC (.slice A n cp) k ∨ k = bp) ∨ k = bb) w w' := by
 refine ZI.calls ?_
 unfold ZI
 obtain ⟨hW, hat, hlw⟩ := id hB
 obtain ⟨hn, hcw, hcu, hp, hN, hb⟩ := id hW
 obtain ⟨hok, hob, hod, hop⟩ := id hwo
 have hF : az (fun k => (aC (.slice A n cp) k ∨ k = bp) ∨ k = bb) w w := Fr.refl _ _ _
 refine Z.x ((Gs.oe o).toArray) (fun b1 w1 e1 ah _ U1 => ?_)
 refine dQ (S := no) (fun w2 U2 => ?_)
 refine gK ?_
 refine Z.g 2 ?_
 replace aN := U2.ag (U1.ag aN)
 refine bi (fun w' hw' => by have aN := hw'.ag aN; exact (BH (n := 5) (cs' := (Gs.cv b.lk).toArray) (by kernel_rfl) aN (Nat.le_of_ble_eq_true rfl) (by rfl))) ?_
 refine Z.g 4 ?_
 replace ah := U2.ag ah
 refine Z.m ah ?_
 replace dK := (dK.ai U1).ai U2
 refine fU (fun w' hw' => by have dK := dK.ai hw'; exact Ci (c := b.lk) dK.p rfl hlo.2 hop) ?_
 refine gK ?_
 refine Z.g 2 ?_
 refine aF (fun w4 U4 => ?_)
 replace aN := U4.ag aN
 refine gQ (n := 5) (by kernel_rfl) (by rfl) (by (simp [Value.cells, Value.oneCell', Gs.cv, Gs.fv, Gs.ie, Gs.pe, Gs.oe, Gs.bT, Gs.fe, Gs.fC, Gs.ce, Gs.dX]; done)) aN (Nat.le_of_ble_eq_true rfl) (by (simp; rfl)) (fun w5 aN _ U5 => ?_)
 replace ae := ((ae.ai U1).ai U2).ai U4
 replace ae := ae.aA U5 (Own.aP ae (by assumption) (by decide))
 replace af := U4.ag (U2.ag (U1.ag af))
 replace af := U5.ak af (by exact fE (by assumption) (by assumption) (by decide))
 replace hF := ((hF.go0 U1).go0 U2).go0 U4
 replace hF := hF.go U5 (fun i _ h => .inr h)
 refine aF (fun w6 U6 => ?_)
 replace ae := ae.ai U6
 replace af := U6.ag af
 replace aN := U6.ag aN
 replace hF := hF.go0 U6
 exact ⟨_, rfl, rfl, af, ae, aN, hF⟩
theorem VU {r c : Int} {A : Option Addr} {n cp bp bb B0 : Nat} {b : Gs.Br} {w : World} (af : Z.h w bp #[Z.i r, Z.i c, .slice A n cp, Z.i b.cur] 91) (ae : Own B0 w 37 5 (.slice A n cp) (rows Gs.cv b.cs)) (aN : Z.h w bb #[Z.p bp, Z.i b.at', Z.u b.lk.b, .bool b.lk.ge, .bool b.lk.st, Z.u b.lk.l, Z.u b.lk.c, .bool b.ld] 229) (hB : Gs.Bw r c n b) {o : Gs.iV} (dK : Gs.kz w [o]) (hwo : Gs.yL o) (hlo : o.ds.length ≤ 100000 ∧ o.ps.length ≤ 100000) (na1 : [o] = [] ∨ ∀ k, Gs.jI [o] k → ¬ aC (.slice A n cp) k) (na2 : [o] = [] ∨ ∀ k, Gs.jI [o] k → k ≠ bp) (na3 : [o] = [] ∨ ∀ k, Gs.jI [o] k → k ≠ bb) :
    oX 187 #[Z.p bb, .agg (Gs.oe o).toArray] w fun e w' => ∃ v, e = .returned v ∧ v = Z.i (Gs.ni o.m b).2 ∧ Z.h w' bp #[Z.i r, Z.i c, .slice A n cp, Z.i (Gs.ni o.m b).1.cur] 91 ∧ Own B0 w' 37 5 (.slice A n cp) (rows Gs.cv (Gs.ni o.m b).1.cs) ∧ Z.h w' bb #[Z.p bp, Z.i (Gs.ni o.m b).1.at', Z.u (Gs.ni o.m b).1.lk.b, .bool (Gs.ni o.m b).1.lk.ge, .bool (Gs.ni o.m b).1.lk.st, Z.u (Gs.ni o.m b).1.lk.l, Z.u (Gs.ni o.m b).1.lk.c, .bool (Gs.ni o.m b).1.ld] 229 ∧ az (fun k => (aC (.slice A n cp) k ∨ k = bp) ∨ k = bb) w w' := by
 refine ZJ.calls ?_
 unfold ZJ
 obtain ⟨hW, hat, hlw⟩ := id hB
 obtain ⟨hn, hcw, hcu, hp, hN, hb⟩ := id hW
 obtain ⟨hok, hob, hod, hop⟩ := id hwo
 have hF : az (fun k => (aC (.slice A n cp) k ∨ k = bp) ∨ k = bb) w w := Fr.refl _ _ _
 refine Z.x ((Gs.oe o).toArray) (fun b1 w1 e1 ah _ U1 => ?_)
 refine dQ (S := no) (fun w2 U2 => ?_)
 refine gK ?_
 refine Z.g 0 ?_
 replace aN := U2.ag (U1.ag aN)
 refine Z.m aN ?_
 refine gK ?_
 refine Z.g 1 ?_
 refine Z.m aN ?_
 replace ae := (ae.ai U1).ai U2
 replace af := U2.ag (U1.ag af)
 refine fU (fun w' hw' => by have af := hw'.ag af; have ae := ae.ai hw'; exact iI af ae hn (i := b.at')) ?_
 refine aF (fun w4 U4 => ?_)
 refine jC ?_
 refine Z.n ((Gs.cv Gs.zc).toArray) (fun b5 w5 e5 bV _ U5 => ?_)
 replace af := U4.ag af
 have lq : bp ≠ b5 := by have := au af; omega
 replace ae := ae.ai U4
 have kD := ae.apart e5
 replace aN := U4.ag aN
 have TY : bb ≠ b5 := by have := au aN; omega
 replace dK := ((dK.ai U1).ai U2).ai U4
 have acn := dK.apart e5
 replace ah := U4.ag (U2.ag ah)
 have ik : b1 ≠ b5 := by have := au ah; omega
 replace hF := ((hF.go0 U1).go0 U2).go0 U4
 have iF : w.heap.size ≤ b5 := by have := hF.size; omega
 refine ⟨U5, ?_⟩
 refine aF (fun w6 U6 => ?_)
 replace bV := U6.ag bV
 refine Z.t 5 ((Gs.cv (Gs.bJ b.cs b.at')).toArray) (by (simp [Value.cells, Value.oneCell', Gs.cv, Gs.fv, Gs.ie, Gs.pe, Gs.oe, Gs.bT, Gs.fe, Gs.fC, Gs.ce, Gs.dX]; done)) bV (fun w7 bV _ U7 => ?_)
 refine aF (fun w8 U8 => ?_)
 refine Z.f 2 ?_
 replace bV := U8.ag bV
 refine mQ (kK (by kernel_rfl) bV (by rfl)) (fun h9 => ?_) (fun h9 => ?_)
 refine aj (lX) ?_
 refine aB ?_
 refine Z.b 5 ((Gs.cv (Gs.bJ b.cs b.at')).toArray) bV ?_
 refine Z.f 4 ?_
 replace ah := U8.ag (U7.ak (U6.ag (U5.ag ah)) ik)
 refine Z.l ah ?_
 replace dK := (((dK.ai U5).ai U6).aA U7 acn).ai U8
 refine aG (Ci (c := Gs.bJ b.cs b.at') dK.p rfl hlo.2 hop) (fun w10 aT => ?_)
 replace ae := ((((ae.ai U5).ai U6).aA U7 kD).ai U8).ai aT
 replace af := aT.ag (U8.ag (U7.ak (U6.ag (U5.ag af)) lq))
 replace aN := aT.ag (U8.ag (U7.ak (U6.ag (U5.ag aN)) TY))
 refine aJ (Gg (b := b) af ae aN hB (x := Gs.oJ (Gs.bJ b.cs b.at') o.ps) (Gs.Cm (Gs.qY hcw _))) (fun v11 oz D11 => ?_)
 obtain ⟨M11, N11, bK⟩ := D11
 have aK := ae
 replace ae := N11
 replace af := bK.get af (fun hs => Or.elim (show aC _ _ ∨ _ = _ from hs) (fun h => Own.aP aK af (by decide) _ h rfl) (fun hb => absurd hb (by exact fE (by assumption) (by assumption) (by decide))))
 replace aN := M11
 replace hF := ((((hF.go0 U5).go0 U6).go1 U7 iF).go0 U8).go0 aT
 replace hF := hF.go bK (fun i h hs => Or.elim (show aC _ _ ∨ _ = _ from hs) (fun hs => .inl (.inl hs)) (fun hb => by (subst hb; omega)))
 clear aK
 rw [Gs.aco (o := o.m) (b := b) (by assumption)]; exact ⟨_, rfl, rfl, af, ae, aN, hF⟩
 refine aj (mV) ?_
 refine aH ?_
 replace ae := (((ae.ai U5).ai U6).aA U7 kD).ai U8
 replace af := U8.ag (U7.ak (U6.ag (U5.ag af)) lq)
 replace aN := U8.ag (U7.ak (U6.ag (U5.ag aN)) TY)
 replace hF := (((hF.go0 U5).go0 U6).go1 U7 iF).go0 U8
 rw [Gs.acp (o := o.m) (b := b) (by assumption)]; exact ⟨_, rfl, rfl, af, ae, aN, hF⟩
theorem VV {r c : Int} {A : Option Addr} {n cp bp bb B0 : Nat} {b : Gs.Br} {w : World} (af : Z.h w bp #[Z.i r, Z.i c, .slice A n cp, Z.i b.cur] 91) (ae : Own B0 w 37 5 (.slice A n cp) (rows Gs.cv b.cs)) (aN : Z.h w bb #[Z.p bp, Z.i b.at', Z.u b.lk.b, .bool b.lk.ge, .bool b.lk.st, Z.u b.lk.l, Z.u b.lk.c, .bool b.ld] 229) (hB : Gs.Bw r c n b) {o : Gs.iV} (dK : Gs.kz w [o]) (hwo : Gs.yL o) (hlo : o.ds.length ≤ 100000 ∧ o.ps.length ≤ 100000) (na1 : [o] = [] ∨ ∀ k, Gs.jI [o] k → ¬ aC (.slice A n cp) k) (na2 : [o] = [] ∨ ∀ k, Gs.jI [o] k → k ≠ bp) (na3 : [o] = [] ∨ ∀ k, Gs.jI [o] k → k ≠ bb) :
    oX 188 #[Z.p bb, .agg (Gs.oe o).toArray] w fun e w' => ∃ v, e = .returned v ∧ v = Z.i (Gs.qW o.m b).2 ∧ Z.h w' bp #[Z.i r, Z.i c, .slice A n cp, Z.i (Gs.qW o.m b).1.cur] 91 ∧ Own B0 w' 37 5 (.slice A n cp) (rows Gs.cv (Gs.qW o.m b).1.cs) ∧ Z.h w' bb #[Z.p bp, Z.i (Gs.qW o.m b).1.at', Z.u (Gs.qW o.m b).1.lk.b, .bool (Gs.qW o.m b).1.lk.ge, .bool (Gs.qW o.m b).1.lk.st, Z.u (Gs.qW o.m b).1.lk.l, Z.u (Gs.qW o.m b).1.lk.c, .bool (Gs.qW o.m b).1.ld] 229 ∧ az (fun k => (aC (.slice A n cp) k ∨ k = bp) ∨ k = bb) w w' := by
 refine ZK.calls ?_
 unfold ZK
 obtain ⟨hW, hat, hlw⟩ := id hB
 obtain ⟨hn, hcw, hcu, hp, hN, hb⟩ := id hW
 have hF : az (fun k => (aC (.slice A n cp) k ∨ k = bp) ∨ k = bb) w w := Fr.refl _ _ _
 refine Z.x ((Gs.oe o).toArray) (fun b1 w1 e1 ah _ U1 => ?_)
 refine dQ (S := no) (fun w2 U2 => ?_)
 refine gK ?_
 refine Z.g 0 ?_
 replace aN := U2.ag (U1.ag aN)
 refine Z.m aN ?_
 refine gK ?_
 refine Z.g 1 ?_
 refine Z.m aN ?_
 refine aF (fun w3 U3 => ?_)
 replace ae := ((ae.ai U1).ai U2).ai U3
 replace af := U3.ag (U2.ag (U1.ag af))
 refine aJ (qR af ae hn (i := b.at')) (fun v4 w4 D4 => ?_)
 obtain ⟨rfl, N4, U4⟩ := D4
 replace ae := ae.aA U4 (Own.aP ae (by assumption) (by decide))
 replace aN := U3.ag aN
 replace aN := U4.ak aN (by exact fE (by assumption) (by assumption) (by decide))
 replace af := N4
 replace hF := ((hF.go0 U1).go0 U2).go0 U3
 replace hF := hF.go U4 (fun i _ h => .inl (.inr h))
 rw [if_pos (by omega)] at af
 refine aF (fun w5 U5 => ?_)
 replace ae := ae.ai U5
 replace af := U5.ag af
 replace aN := U5.ag aN
 replace hF := hF.go0 U5
 exact ⟨_, rfl, rfl, af, ae, aN, hF⟩
theorem acr {r c : Int} {A : Option Addr} {n cp bp bb B0 : Nat} {b : Gs.Br} {w : World} (af : Z.h w bp #[Z.i r, Z.i c, .slice A n cp, Z.i b.cur] 91) (ae : Own B0 w 37 5 (.slice A n cp) (rows Gs.cv b.cs)) (aN : Z.h w bb #[Z.p bp, Z.i b.at', Z.u b.lk.b, .bool b.lk.ge, .bool b.lk.st, Z.u b.lk.l, Z.u b.lk.c, .bool b.ld] 229) (hB : Gs.Bw r c n b)  :
    oX 201 #[Z.p bb] w fun e w' => ∃ v, e = .returned v ∧ Own B0 w' 37 5 (.slice A n cp) (rows Gs.cv (Gs.mG (b.cs.length - b.at'.toNat) b.cs b.at')) ∧ az (aC (.slice A n cp)) w w' := by
 refine ZT.calls ?_
 unfold ZT
 obtain ⟨hW, hat, hlw⟩ := id hB
 obtain ⟨hn, hcw, hcu, hp, hN, hb⟩ := id hW
 obtain ⟨a0, ha0⟩ := Int.eq_ofNat_of_zero_le hat.1
 have ha1 : a0 < n := by omega
 have hF : az (aC (.slice A n cp)) w w := Fr.refl _ _ _
 refine dm ?_
 refine Z.f 1 ?_
 refine Z.l aN ?_
 refine dW (fun g w' => ∃ (k : Nat) (cs1 : List Gs.Cell), (g 2 = Z.i (k : Int)) ∧ (k ≤ n) ∧ ((Gs.mG (b.cs.length - b.at'.toNat) b.cs b.at') = Gs.mG (n - k) cs1 k) ∧ (n = cs1.length) ∧ (Own B0 w' 37 5 (.slice A n cp) (rows Gs.cv cs1)) ∧ (Z.h w' bp #[Z.i r, Z.i c, .slice A n cp, Z.i b.cur] 91) ∧ (Z.h w' bb #[Z.p bp, Z.i b.at', Z.u b.lk.b, .bool b.lk.ge, .bool b.lk.st, Z.u b.lk.l, Z.u b.lk.c, .bool b.ld] 229) ∧ (az (aC (.slice A n cp)) w w')) (fun g w' => n - (RowKit.intOf (g 2)).toNat) ?_ (fun g1 wl1 hI => ?_)
 exact ⟨a0, _, (by rw [← ha0]; rfl), (by omega), (by rw [ha0, ← hn]; rfl), hn, ae, af, aN, hF⟩
 obtain ⟨k, cs1, g2, hk, hrs, hl1, ae, af, aN, hF⟩ := hI
 rw [g2]
 refine dm ?_
 refine Z.f 0 ?_
 refine Z.l aN ?_
 refine aG (eY af ae hl1) (fun w1 U1 => ?_)
 refine ay (lss _ _ _ _) (fun h2 => ?_) (fun h2 => ?_)
 refine bD (bD ?_)
 refine dm ?_
 refine bD ?_
 refine Z.f 0 ?_
 refine bD ?_
 replace aN := U1.ag aN
 refine Z.l aN ?_
 refine bD (bD ?_)
 replace ae := ae.ai U1
 replace af := U1.ag af
 refine aG (iI af ae hl1 (i := (k : Int))) (fun w3 U3 => ?_)
 refine bD ?_
 refine mQ (tH (off := 2) (by kernel_rfl) (by rfl)) (fun h4 => ?_) (fun h4 => ?_)
 refine bD ?_
 refine aj (lX) ?_
 refine bu (aB ?_)
 replace hF := (hF.go0 U1).go0 U3
 replace ae := ae.ai U3
 exact ⟨_, rfl, (by rw [Gs.ahU hrs (by assumption)]; exact ae), hF⟩
 refine bD ?_
 refine aj (mV) ?_
 refine bu (aH ?_)
 refine dm ?_
 refine Z.f 0 ?_
 replace aN := U3.ag aN
 refine Z.l aN ?_
 refine aj (bz (l := [(0, 1), (1, 1), (2, 1), (3, 1), (4, 1)]) (z := #[Z.u 0, .bool false, .bool false, Z.u 0, Z.u 0]) (cs := (Gs.cv Gs.zc)) (by kernel_rfl) (by rfl)) ?_
 replace ae := ae.ai U3
 replace af := U3.ag af
 refine aJ (jG af ae hl1 (i := (k : Int)) (x := Gs.zc)) (fun v6 w6 D6 => ?_)
 obtain ⟨rfl, N6, U6⟩ := D6
 have aK := ae
 replace ae := N6
 replace af := U6.get af (fun h => Own.aP aK af (by decide) _ h rfl)
 replace aN := U6.get aN (fun h => Own.aP aK aN (by decide) _ h rfl)
 replace hF := (hF.go0 U1).go0 U3
 replace hF := hF.go U6 (fun i h hs => by exact hs)
 clear aK
 refine aj (dF _ (by omega)) ?_
 exact ⟨⟨k + 1, _, rfl, (by omega), (Gs.ahV hrs (by omega) (by assumption)), (by rw [Gs.mr]; exact hl1), ae, af, aN, hF⟩, cnt_lt (by rfl) rfl (by omega)⟩
 refine bf (bf (bf (bf (bf (bf (bf (bf (bG (aB ?_)))))))))
 replace ae := ae.ai U1
 replace hF := hF.go0 U1
 exact ⟨_, rfl, (by rw [Gs.ahW hrs (by omega)]; exact ae), hF⟩
def BrC (m : Nat) (f : Gs.iU → Gs.Br → Gs.Br × Int) (o : Gs.iV) (r c : Int) (A : Option Addr) (n cp bp bb B0 : Nat) (b : Gs.Br) : Prop := ∀ {w : World}, Z.h w bp #[Z.i r, Z.i c, .slice A n cp, Z.i b.cur] 91 → Own B0 w 37 5 (.slice A n cp) (rows Gs.cv b.cs) → Z.h w bb #[Z.p bp, Z.i b.at', Z.u b.lk.b, .bool b.lk.ge, .bool b.lk.st, Z.u b.lk.l, Z.u b.lk.c, .bool b.ld] 229 → Gs.kz w [o] → oX m #[Z.p bb, .agg (Gs.oe o).toArray] w (fun e w' => ∃ v, e = .returned v ∧ v = Z.i (f o.m b).2 ∧ Z.h w' bp #[Z.i r, Z.i c, .slice A n cp, Z.i (f o.m b).1.cur] 91 ∧ Own B0 w' 37 5 (.slice A n cp) (rows Gs.cv (f o.m b).1.cs) ∧ Z.h w' bb #[Z.p bp, Z.i (f o.m b).1.at', Z.u (f o.m b).1.lk.b, .bool (f o.m b).1.lk.ge, .bool (f o.m b).1.lk.st, Z.u (f o.m b).1.lk.l, Z.u (f o.m b).1.lk.c, .bool (f o.m b).1.ld] 229 ∧ az (fun k => (aC (.slice A n cp) k ∨ k = bp) ∨ k = bb) w w')
theorem aet {r c : Int} {A : Option Addr} {n cp bp bb B0 : Nat} {b : Gs.Br} {w : World} (af : Z.h w bp #[Z.i r, Z.i c, .slice A n cp, Z.i b.cur] 91) (ae : Own B0 w 37 5 (.slice A n cp) (rows Gs.cv b.cs)) (aN : Z.h w bb #[Z.p bp, Z.i b.at', Z.u b.lk.b, .bool b.lk.ge, .bool b.lk.st, Z.u b.lk.l, Z.u b.lk.c, .bool b.ld] 229) (hB : Gs.Bw r c n b) {o : Gs.iV} (dK : Gs.kz w [o]) (hwo : Gs.yL o) (hlo : o.ds.length ≤ 100000 ∧ o.ps.length ≤ 100000) (na1 : [o] = [] ∨ ∀ k, Gs.jI [o] k → ¬ aC (.slice A n cp) k) (na2 : [o] = [] ∨ ∀ k, Gs.jI [o] k → k ≠ bp) (na3 : [o] = [] ∨ ∀ k, Gs.jI [o] k → k ≠ bb) :
    oX 189 #[Z.p bb, .agg (Gs.oe o).toArray] w fun e w' => ∃ v, e = .returned v ∧ v = Z.i (Gs.wI o.m b).2 ∧ Z.h w' bp #[Z.i r, Z.i c, .slice A n cp, Z.i (Gs.wI o.m b).1.cur] 91 ∧ Own B0 w' 37 5 (.slice A n cp) (rows Gs.cv (Gs.wI o.m b).1.cs) ∧ Z.h w' bb #[Z.p bp, Z.i (Gs.wI o.m b).1.at', Z.u (Gs.wI o.m b).1.lk.b, .bool (Gs.wI o.m b).1.lk.ge, .bool (Gs.wI o.m b).1.lk.st, Z.u (Gs.wI o.m b).1.lk.l, Z.u (Gs.wI o.m b).1.lk.c, .bool (Gs.wI o.m b).1.ld] 229 ∧ az (fun k => (aC (.slice A n cp) k ∨ k = bp) ∨ k = bb) w w' := by
 refine ZL.calls ?_
 unfold ZL
 obtain ⟨hW, hat, hlw⟩ := id hB
 obtain ⟨hn, hcw, hcu, hp, hN, hb⟩ := id hW
 obtain ⟨a0, ha0⟩ := Int.eq_ofNat_of_zero_le hat.1
 have ha1 : a0 < n := by omega
 have hF : az (fun k => (aC (.slice A n cp) k ∨ k = bp) ∨ k = bb) w w := Fr.refl _ _ _
 refine Z.x ((Gs.oe o).toArray) (fun b1 w1 e1 ah _ U1 => ?_)
 refine bH (fun g w' => ∃ (cs1 : List Gs.Cell), (cs1 = (if b.ld = true then (Gs.mG (b.cs.length - b.at'.toNat) b.cs b.at') else b.cs)) ∧ (n = cs1.length) ∧ (Gs.jq cs1) ∧ (Z.h w' bp #[Z.i r, Z.i c, .slice A n cp, Z.i b.cur] 91) ∧ (Own B0 w' 37 5 (.slice A n cp) (rows Gs.cv cs1)) ∧ (Z.h w' bb #[Z.p bp, Z.i b.at', Z.u b.lk.b, .bool b.lk.ge, .bool b.lk.st, Z.u b.lk.l, Z.u b.lk.c, .bool b.ld] 229) ∧ (az (fun k => (aC (.slice A n cp) k ∨ k = bp) ∨ k = bb) w w')) (fun J1 hJ1 => ?_) (fun gJ1 jX hI => ?_)
 refine dm ?_
 refine Z.f 7 ?_
 replace aN := U1.ag aN
 refine mQ (kK (by kernel_rfl) aN (by rfl)) (fun h2 => ?_) (fun h2 => ?_)
 refine aH ?_
 replace ae := ae.ai U1
 replace af := U1.ag af
 refine aJ (acr (b := b) af ae aN hB) (fun v3 w3 D3 => ?_)
 obtain ⟨N3, U3⟩ := D3
 have aK := ae
 replace af := U3.get af (fun h => Own.aP aK af (by decide) _ h rfl)
 replace ae := N3
 replace aN := U3.get aN (fun h => Own.aP aK aN (by decide) _ h rfl)
 replace hF := hF.go0 U1
 replace hF := hF.go U3 (fun i h hs => .inl (.inl hs))
 clear aK
 refine hJ1 _ _ ?_
 exact ⟨_, (by (rw [if_pos (by assumption)])), (by (rw [Gs.PV]; exact hn)), (by exact (Gs.OH hcw _ _ _ hcw).1), af, ae, aN, hF⟩
 refine aB ?_
 refine hJ1 _ _ ?_
 replace ae := ae.ai U1
 replace af := U1.ag af
 replace hF := hF.go0 U1
 exact ⟨_, (by (rw [if_neg (by simp_all)])), (by exact hn), (by exact hcw), af, ae, aN, hF⟩
 replace ae := ae.ai U1
 replace af := U1.ag af
 replace aN := U1.ag aN
 replace hF := hF.go0 U1
 obtain ⟨cs1, hc1, hl1, hw1, af, ae, aN, hF⟩ := hI
 refine bH (fun g w' => (none = Gs.xA (n - a0) cs1 (a0 : Int)) ∧ (Z.h w' bp #[Z.i r, Z.i c, .slice A n cp, Z.i b.cur] 91) ∧ (Own B0 w' 37 5 (.slice A n cp) (rows Gs.cv cs1)) ∧ (Z.h w' bb #[Z.p bp, Z.i b.at', Z.u b.lk.b, .bool b.lk.ge, .bool b.lk.st, Z.u b.lk.l, Z.u b.lk.c, .bool b.ld] 229) ∧ (az (fun k => (aC (.slice A n cp) k ∨ k = bp) ∨ k = bb) w w')) (fun J2 hJ2 => ?_) (fun gJ2 RI hI => ?_)
 refine dm ?_
 refine Z.f 1 ?_
 refine Z.l aN ?_
 refine dW (fun g w' => ∃ (k : Nat), (g 5 = Z.i (k : Int)) ∧ (k ≤ n) ∧ (Gs.xA (n - a0) cs1 (a0 : Int) = Gs.xA (n - k) cs1 (k : Int)) ∧ (Z.h w' bp #[Z.i r, Z.i c, .slice A n cp, Z.i b.cur] 91) ∧ (Own B0 w' 37 5 (.slice A n cp) (rows Gs.cv cs1)) ∧ (Z.h w' bb #[Z.p bp, Z.i b.at', Z.u b.lk.b, .bool b.lk.ge, .bool b.lk.st, Z.u b.lk.l, Z.u b.lk.c, .bool b.ld] 229) ∧ (az (fun k => (aC (.slice A n cp) k ∨ k = bp) ∨ k = bb) w w')) (fun g w' => n - (RowKit.intOf (g 5)).toNat) ?_ (fun g3 wl3 hI => ?_)
 exact ⟨a0, (by rw [← ha0]; rfl), (by omega), rfl, af, ae, aN, hF⟩
 obtain ⟨k, g5, hk, hti, af, ae, aN, hF⟩ := hI
 rw [g5]
 refine dm ?_
 refine Z.f 0 ?_
 refine Z.l aN ?_
 refine aG (eY af ae hl1) (fun w4 U4 => ?_)
 refine ay (lss _ _ _ _) (fun h5 => ?_) (fun h5 => ?_)
 refine aH ?_
 refine dm ?_
 refine Z.f 0 ?_
 replace aN := U4.ag aN
 refine Z.l aN ?_
 replace ae := ae.ai U4
 replace af := U4.ag af
 refine aG (iI af ae hl1 (i := (k : Int))) (fun w6 U6 => ?_)
 refine Z.n ((Gs.cv Gs.zc).toArray) (fun b7 w7 e7 pM _ U7 => ?_)
 replace af := U6.ag af
 have KY : bp ≠ b7 := by have := au af; omega
 replace ae := ae.ai U6
 have Eg := ae.apart e7
 replace aN := U6.ag aN
 have KZ : bb ≠ b7 := by have := au aN; omega
 replace hF := (hF.go0 U4).go0 U6
 have xY : w.heap.size ≤ b7 := by have := hF.size; omega
 refine Z.t 5 ((Gs.cv (Gs.bJ cs1 (k : Int))).toArray) (by (simp [Value.cells, Value.oneCell', Gs.cv, Gs.fv, Gs.ie, Gs.pe, Gs.oe, Gs.bT, Gs.fe, Gs.fC, Gs.ce, Gs.dX]; done)) pM (fun w8 pM _ U8 => ?_)
 refine Z.f 2 ?_
 refine mQ (kK (by kernel_rfl) pM (by rfl)) (fun h9 => ?_) (fun h9 => ?_)
 refine bD ?_
 refine Z.f 0 ?_
 refine bD ?_
 refine Z.l pM ?_
 refine bD ?_
 refine dS (mW (Gs.qY hw1 _)) (fun w10 aT h10 => ?_) (fun w10 aT h10 => ?_)
 simp only [Z.d, Z.c] at h10
 refine bD ?_
 refine aj (lX) ?_
 refine bu (aB ?_)
 refine aj (dF _ (by omega)) ?_
 replace ae := ((ae.ai U7).aA U8 Eg).ai aT
 replace af := aT.ag (U8.ak (U7.ag af) KY)
 replace aN := aT.ag (U8.ak (U7.ag aN) KZ)
 replace hF := ((hF.go0 U7).go1 U8 xY).go0 aT
 exact ⟨⟨k + 1, rfl, (by omega), (hti.trans (Gs.acs rfl (by omega) (by rintro ⟨h1, h2⟩; (unfold Gs.qL at h2; have := of_decide_eq_false h2; contradiction)))), af, ae, aN, hF⟩, cnt_lt (by rfl) rfl (by omega)⟩
 simp only [Z.d, Z.c] at h10
 refine bD ?_
 refine aj (mV) ?_
 refine bu (aH ?_)
 refine dm ?_
 refine Z.f 0 ?_
 replace aN := aT.ag (U8.ak (U7.ag aN) KZ)
 refine Z.l aN ?_
 replace ae := ((ae.ai U7).aA U8 Eg).ai aT
 replace af := aT.ag (U8.ak (U7.ag af) KY)
 refine aG (ku af ae hl1) (fun oz bK => ?_)
 refine aG (mO (i := (k : Int)) (j := 1)) (fun w12 cZ => ?_)
 rw [hN, Gs.rQ (by omega)]
 refine dm ?_
 refine Z.f 1 ?_
 replace aN := cZ.ag (bK.ag aN)
 refine Z.s aN (fun uM aN _ dI => ?_)
 replace ae := (ae.ai bK).ai cZ
 replace ae := ae.aA dI (Own.aP ae (by assumption) (by decide))
 replace af := cZ.ag (bK.ag af)
 replace af := dI.ak af (by exact fE (by assumption) (by assumption) (by decide))
 replace hF := ((((hF.go0 U7).go1 U8 xY).go0 aT).go0 bK).go0 cZ
 replace hF := hF.go dI (fun i _ h => .inr h)
 rw [Gs.Xr hc1 (Gs.ajZ ha0 hl1 hti (by omega) (by assumption) (by unfold Gs.qL; exact decide_eq_false (by assumption)))]; exact ⟨_, rfl, rfl, af, ae, aN, hF⟩
 refine bf (bf (bf (bf (bG (aB ?_)))))
 refine aj (dF _ (by omega)) ?_
 replace ae := (ae.ai U7).aA U8 Eg
 replace af := U8.ak (U7.ag af) KY
 replace aN := U8.ak (U7.ag aN) KZ
 replace hF := (hF.go0 U7).go1 U8 xY
 exact ⟨⟨k + 1, rfl, (by omega), (hti.trans (Gs.acs rfl (by omega) (by rintro ⟨h1, h2⟩; (simp_all; done)))), af, ae, aN, hF⟩, cnt_lt (by rfl) rfl (by omega)⟩
 refine aB ?_
 refine hJ2 _ _ ?_
 replace ae := ae.ai U4
 replace af := U4.ag af
 replace aN := U4.ag aN
 replace hF := hF.go0 U4
 exact ⟨(hti.trans (Gs.aj0 rfl (by omega))).symm, af, ae, aN, hF⟩
 obtain ⟨htn, af, ae, aN, hF⟩ := hI
 refine dm ?_
 refine Z.f 1 ?_
 refine Z.s aN (fun uN aN _ dH => ?_)
 replace ae := ae.aA dH (Own.aP ae (by assumption) (by decide))
 replace af := dH.ak af (by exact fE (by assumption) (by assumption) (by decide))
 replace hF := hF.go dH (fun i _ h => .inr h)
 rw [Gs.Xr hc1 (x := 0) (by rw [ha0]; exact Gs.acu (by rw [← hl1]; exact htn))]; exact ⟨_, rfl, rfl, af, ae, aN, hF⟩
theorem VW {r c : Int} {A : Option Addr} {n cp bp bb B0 : Nat} {b : Gs.Br} {w : World} (af : Z.h w bp #[Z.i r, Z.i c, .slice A n cp, Z.i b.cur] 91) (ae : Own B0 w 37 5 (.slice A n cp) (rows Gs.cv b.cs)) (aN : Z.h w bb #[Z.p bp, Z.i b.at', Z.u b.lk.b, .bool b.lk.ge, .bool b.lk.st, Z.u b.lk.l, Z.u b.lk.c, .bool b.ld] 229) (hB : Gs.Bw r c n b) {o : Gs.iV} (dK : Gs.kz w [o]) (hwo : Gs.yL o) (hlo : o.ds.length ≤ 100000 ∧ o.ps.length ≤ 100000) (na1 : [o] = [] ∨ ∀ k, Gs.jI [o] k → ¬ aC (.slice A n cp) k) (na2 : [o] = [] ∨ ∀ k, Gs.jI [o] k → k ≠ bp) (na3 : [o] = [] ∨ ∀ k, Gs.jI [o] k → k ≠ bb) :
    oX 190 #[Z.p bb, .agg (Gs.oe o).toArray] w fun e w' => ∃ v, e = .returned v ∧ v = Z.i (Gs.vS o.m b).2 ∧ Z.h w' bp #[Z.i r, Z.i c, .slice A n cp, Z.i (Gs.vS o.m b).1.cur] 91 ∧ Own B0 w' 37 5 (.slice A n cp) (rows Gs.cv (Gs.vS o.m b).1.cs) ∧ Z.h w' bb #[Z.p bp, Z.i (Gs.vS o.m b).1.at', Z.u (Gs.vS o.m b).1.lk.b, .bool (Gs.vS o.m b).1.lk.ge, .bool (Gs.vS o.m b).1.lk.st, Z.u (Gs.vS o.m b).1.lk.l, Z.u (Gs.vS o.m b).1.lk.c, .bool (Gs.vS o.m b).1.ld] 229 ∧ az (fun k => (aC (.slice A n cp) k ∨ k = bp) ∨ k = bb) w w' := by
 refine ZM.calls ?_
 unfold ZM
 obtain ⟨hW, hat, hlw⟩ := id hB
 obtain ⟨hn, hcw, hcu, hp, hN, hb⟩ := id hW
 obtain ⟨hok, hob, hod, hop⟩ := id hwo
 have hF : az (fun k => (aC (.slice A n cp) k ∨ k = bp) ∨ k = bb) w w := Fr.refl _ _ _
 refine Z.x ((Gs.oe o).toArray) (fun b1 w1 e1 ah _ U1 => ?_)
 have jW : bp ≠ b1 := by have := au af; omega
 have CB : bb ≠ b1 := by have := au aN; omega
 refine dm ?_
 refine Z.f 1 ?_
 replace aN := U1.ag aN
 refine Z.l aN ?_
 refine Z.b 6 ((Gs.oe o).toArray) ah ?_
 replace ae := ae.ai U1
 replace dK := dK.ai U1
 replace af := U1.ag af
 refine aJ (IG af ae aN hB dK hwo hlo na1 na2 na3) (fun v2 w2 D2 => ?_)
 have aK := ae
 replace hF := hF.go0 U1
 have qF2 := hF.size
 obtain ⟨rfl, af, ae, aN, U2⟩ := D2
 replace ah := U2.get ah (fun hs => by rcases hs with (hs | hs) | hs <;> first | (first | exact Own.aP aK ah (by decide) _ hs rfl | (have := Own.ge aK hs; omega)) | (exact absurd hs (Ne.symm jW)) | (exact absurd hs (Ne.symm CB)))
 replace hF := hF.go U2 (fun i hi hs => by exact hs)
 clear aK
 refine ay (kL _ _ _ _ _) (fun h3 => ?_) (fun h3 => ?_)
 refine aH ?_
 rw [Gs.Xt (by assumption)] at af ae aN ⊢; rw [Gs.aj1 (o := o.m) (b := b) (Gs.La (by assumption))]; exact ⟨_, rfl, rfl, af, ae, aN, hF⟩
 refine aB ?_
 refine dQ (S := no) (fun w5 U5 => ?_)
 have hj := Gs.Xu (o := o.m) (b := b) (by assumption)
 replace ae := ae.ai U5
 replace aN := U5.ag aN
 replace af := U5.ag af
 rw [Gs.Jq hj] at af ae aN
 dsimp only at af ae aN
 refine gK ?_
 refine Z.g 0 ?_
 refine Z.m aN ?_
 refine gK ?_
 refine Z.g 1 ?_
 refine Z.m aN ?_
 refine Z.g 2 ?_
 replace ah := U5.ag ah
 refine Z.m ah ?_
 refine Z.g 3 ?_
 refine Z.m ah ?_
 refine fU (fun w' hw' => by have aN := hw'.ag aN; exact IC (b := ({ b with at' := o.a } : Gs.Br)) aN (x := o.b) (g := o.ge)) ?_
 refine aF (fun w7 U7 => ?_)
 replace ae := ae.ai U7
 replace af := U7.ag af
 refine aJ (Ij af ae hn (i := b.at') (j := o.a) (x := Gs.wo b o.b o.ge) hN) (fun v8 w8 D8 => ?_)
 obtain ⟨rfl, N8, U8⟩ := D8
 have aK := ae
 replace aN := U7.ag aN
 replace aN := U8.get aN (fun h => Own.aP aK aN (by decide) _ h rfl)
 replace af := U8.get af (fun h => Own.aP aK af (by decide) _ h rfl)
 replace ae := N8
 replace hF := (hF.go0 U5).go0 U7
 replace hF := hF.go U8 (fun i h hs => .inl (.inl hs))
 clear aK
 rw [show Gs.aU r c = (b.cs.length : Int) by rw [hN, ← hn]] at ae
 refine aF (fun w9 U9 => ?_)
 replace ae := ae.ai U9
 replace aN := U9.ag aN
 replace af := U9.ag af
 replace hF := hF.go0 U9
 rw [Gs.aj2 (o := o.m) (b := b) hj]; exact ⟨_, rfl, rfl, af, ae, aN, hF⟩
theorem acv {r c : Int} {A : Option Addr} {n cp bp bb B0 : Nat} {b : Gs.Br} {w : World} (af : Z.h w bp #[Z.i r, Z.i c, .slice A n cp, Z.i b.cur] 91) (ae : Own B0 w 37 5 (.slice A n cp) (rows Gs.cv b.cs)) (aN : Z.h w bb #[Z.p bp, Z.i b.at', Z.u b.lk.b, .bool b.lk.ge, .bool b.lk.st, Z.u b.lk.l, Z.u b.lk.c, .bool b.ld] 229) (hB : Gs.Bw r c n b) {o : Gs.iV} (dK : Gs.kz w [o]) (hwo : Gs.yL o) (hlo : o.ds.length ≤ 100000 ∧ o.ps.length ≤ 100000) (na1 : [o] = [] ∨ ∀ k, Gs.jI [o] k → ¬ aC (.slice A n cp) k) (na2 : [o] = [] ∨ ∀ k, Gs.jI [o] k → k ≠ bp) (na3 : [o] = [] ∨ ∀ k, Gs.jI [o] k → k ≠ bb) :
    oX 191 #[Z.p bb, .agg (Gs.oe o).toArray] w fun e w' => ∃ v, e = .returned v ∧ v = Z.i (Gs.rC o.m b).2 ∧ Z.h w' bp #[Z.i r, Z.i c, .slice A n cp, Z.i (Gs.rC o.m b).1.cur] 91 ∧ Own B0 w' 37 5 (.slice A n cp) (rows Gs.cv (Gs.rC o.m b).1.cs) ∧ Z.h w' bb #[Z.p bp, Z.i (Gs.rC o.m b).1.at', Z.u (Gs.rC o.m b).1.lk.b, .bool (Gs.rC o.m b).1.lk.ge, .bool (Gs.rC o.m b).1.lk.st, Z.u (Gs.rC o.m b).1.lk.l, Z.u (Gs.rC o.m b).1.lk.c, .bool (Gs.rC o.m b).1.ld] 229 ∧ az (fun k => (aC (.slice A n cp) k ∨ k = bp) ∨ k = bb) w w' := by
 refine ZN.calls ?_
 unfold ZN
 obtain ⟨hW, hat, hlw⟩ := id hB
 obtain ⟨hn, hcw, hcu, hp, hN, hb⟩ := id hW
 have uA := au af
 have jP := Own.lt ae
 have lt_h_bb := au aN
 have aj3 := dK.lt
 have hF : az (fun k => (aC (.slice A n cp) k ∨ k = bp) ∨ k = bb) w w := Fr.refl _ _ _
 refine Z.x _ (fun b1 w1 e1 ah _ U1 => ?_)
 have jW : bp ≠ b1 := by have := au af; omega
 have gV := ae.apart e1
 have CB : bb ≠ b1 := by have := au aN; omega
 have anF := dK.apart e1
 have bU : w.heap.size ≤ b1 := by have := hF.size; omega
 refine Z.x ((Gs.oe o).toArray) (fun b2 w2 e2 ax _ U2 => ?_)
 replace af := U1.ag af
 have fH : bp ≠ b2 := by have := au af; omega
 replace ae := ae.ai U1
 have dN := ae.apart e2
 replace aN := U1.ag aN
 have aeu : bb ≠ b2 := by have := au aN; omega
 replace dK := dK.ai U1
 have anG := dK.apart e2
 have lJ : b1 ≠ b2 := by have := au ah; omega
 replace hF := hF.go0 U1
 have fF : w.heap.size ≤ b2 := by have := hF.size; omega
 replace ah := U2.ag ah
 refine Z.l ah ?_
 refine dm ?_
 refine Z.f 1 ?_
 replace aN := U2.ag aN
 refine Z.l aN ?_
 refine Z.l ah ?_
 refine Z.b 6 ((Gs.oe o).toArray) ax ?_
 replace ae := ae.ai U2
 replace dK := dK.ai U2
 replace af := U2.ag af
 refine aJ (IG af ae aN hB dK hwo hlo na1 na2 na3) (fun v3 w3 D3 => ?_)
 have aK := ae
 replace hF := hF.go0 U2
 have qF3 := hF.size
 obtain ⟨rfl, af, ae, aN, U3⟩ := D3
 replace dK := dK.eH U3 (na1.elim .inl fun h0 => na2.elim .inl fun h1 => na3.elim .inl fun h2 => .inr fun k hk hs => by rcases hs with (hs | hs) | hs <;> first | exact h0 k hk hs | exact h1 k hk hs | exact h2 k hk hs)
 replace ah := U3.get ah (fun hs => by rcases hs with (hs | hs) | hs <;> first | (first | exact Own.aP aK ah (by decide) _ hs rfl | (have := Own.ge aK hs; omega)) | (exact absurd hs (Ne.symm jW)) | (exact absurd hs (Ne.symm CB)))
 replace ax := U3.get ax (fun hs => by rcases hs with (hs | hs) | hs <;> first | (first | exact Own.aP aK ax (by decide) _ hs rfl | (have := Own.ge aK hs; omega)) | (exact absurd hs (Ne.symm fH)) | (exact absurd hs (Ne.symm aeu)))
 replace hF := hF.go U3 (fun i hi hs => by exact hs)
 clear aK
 refine ay (kL _ _ _ _ _) (fun h4 => ?_) (fun h4 => ?_)
 refine aH ?_
 show lS [] _ _
 rw [Gs.Xt (by assumption)] at af ae aN ⊢; rw [Gs.ahX (o := o.m) (b := b) (Gs.La (by assumption))]; exact ⟨_, rfl, rfl, af, ae, aN, hF⟩
 refine aB ?_
 refine bH (fun g w' => ∃ (D2 : Nat), (g 1000000 = mkV D2 undef) ∧ (w.heap.size ≤ D2) ∧ (w'.heap[D2]? = some (.deferred (some []))) ∧ (¬ (o.a < 0 ∨ (b.cs.length : Int) ≤ o.a)) ∧ (Z.h w' bp #[Z.i r, Z.i c, .slice A n cp, Z.i b.cur] 91) ∧ (Own B0 w' 37 5 (.slice A n cp) (rows Gs.cv (Gs.o5 b.cs (Gs.qH (Gs.aU r c) b.at' o.a)))) ∧ (Z.h w' bb #[Z.p bp, Z.i ({ b with at' := o.a } : Gs.Br).at', Z.u ({ b with at' := o.a } : Gs.Br).lk.b, .bool ({ b with at' := o.a } : Gs.Br).lk.ge, .bool ({ b with at' := o.a } : Gs.Br).lk.st, Z.u ({ b with at' := o.a } : Gs.Br).lk.l, Z.u ({ b with at' := o.a } : Gs.Br).lk.c, .bool ({ b with at' := o.a } : Gs.Br).ld] 229) ∧ (az (fun k => (aC (.slice A n cp) k ∨ k = bp) ∨ k = bb) w w')) (fun J1 hJ1 => ?_) (fun gJ1 jX hI => ?_)
 refine dQ (S := no) (fun w7 U7 => ?_)
 replace dK := dK.ai U7
 replace ae := ae.ai U7
 replace ah := U7.ag ah
 replace ax := U7.ag ax
 replace aN := U7.ag aN
 replace af := U7.ag af
 replace hF := hF.go0 U7
 have hj := Gs.Xu (o := o.m) (b := b) (by assumption)
 rw [Gs.Jq hj] at af ae aN
 dsimp only at af ae aN
 refine Z.m ah ?_
 refine gK ?_
 refine Z.g 0 ?_
 refine Z.m aN ?_
 refine fU (fun w' hw' => by have af := hw'.ag af; have ae := ae.ai hw'; exact ku af ae hn) ?_
 refine Z.m ah ?_
 refine gK ?_
 refine Z.g 1 ?_
 refine Z.m aN ?_
 refine aF (fun w9 U9 => ?_)
 refine aJ (ES (r := r) (c := c) (i := b.at') (j := o.a)) (fun v10 w10 D10 => ?_)
 obtain ⟨b3_28, b4_28, b5_28, rfl, g3_28, g4_28, g5_28, kV, kW, kX, aT⟩ := D10
 replace dK := dK.ai U9
 have aj6 := (dK.lt).ne (b := b3_28) (by omega)
 replace ah := U9.ag ah
 have alA : b1 ≠ b3_28 := by have := au ah; omega
 replace ax := U9.ag ax
 have alB : b2 ≠ b3_28 := by have := au ax; omega
 replace aN := U9.ag aN
 have alC : bb ≠ b3_28 := by have := au aN; omega
 replace af := U9.ag af
 have alD : bp ≠ b3_28 := by have := au af; omega
 replace ae := ae.ai U9
 have OI : ∀ k, aC _ k → k ≠ b3_28 := fun k hk => by have := (Own.ge ae hk).2; omega
 replace hF := hF.go0 U9
 have aoF : w.heap.size ≤ b3_28 := by have := hF.size; omega
 have aj7 := (dK.lt).ne (b := b4_28) (by omega)
 have alE : b1 ≠ b4_28 := by have := au ah; omega
 have alF : b2 ≠ b4_28 := by have := au ax; omega
 have alG : bb ≠ b4_28 := by have := au aN; omega
 have alH : bp ≠ b4_28 := by have := au af; omega
 have OJ : ∀ k, aC _ k → k ≠ b4_28 := fun k hk => by have := (Own.ge ae hk).2; omega
 have aoG : w.heap.size ≤ b4_28 := by have := hF.size; omega
 have aj8 := (dK.lt).ne (b := b5_28) (by omega)
 have alI : b1 ≠ b5_28 := by have := au ah; omega
 have alJ : b2 ≠ b5_28 := by have := au ax; omega
 have alK : bb ≠ b5_28 := by have := au aN; omega
 have alL : bp ≠ b5_28 := by have := au af; omega
 have OL : ∀ k, aC _ k → k ≠ b5_28 := fun k hk => by have := (Own.ge ae hk).2; omega
 have aoH : w.heap.size ≤ b5_28 := by have := hF.size; omega
 refine aF (fun oz bK => ?_)
 refine tZ (by kernel_rfl) (fun w12 l2 D2 Rdy2 Bsy2 Dn2 y2 eD el aZ bg lp1 lp2 lp3 sz12 cZ hY => ?_)
 have lp2_2 := lp2
 replace dK := (dK.ai aT).ai bK
 have anH := (dK.lt).ne (b := D2) (by omega)
 have anI := (dK.lt).ne (b := l2) (by omega)
 replace ah := bK.ag (aT.ag ah)
 have SI : b1 ≠ D2 := by have := au ah; omega
 have iJ : b1 ≠ l2 := by have := au ah; omega
 replace ax := bK.ag (aT.ag ax)
 have uf : b2 ≠ D2 := by have := au ax; omega
 have gW : b2 ≠ l2 := by have := au ax; omega
 replace aN := bK.ag (aT.ag aN)
 have aoI : bb ≠ D2 := by have := au aN; omega
 have Gi : bb ≠ l2 := by have := au aN; omega
 replace af := bK.ag (aT.ag af)
 have SH : bp ≠ D2 := by have := au af; omega
 have iE : bp ≠ l2 := by have := au af; omega
 replace ae := (ae.ai aT).ai bK
 have rU : ∀ k, aC _ k → k ≠ D2 := fun k hk => by have := (Own.ge ae hk).2; omega
 have fD : ∀ k, aC _ k → k ≠ l2 := fun k hk => by have := (Own.ge ae hk).2; omega
 replace kV := bK.ag kV
 have alM : b3_28 ≠ D2 := by have := au kV; omega
 have zD : b3_28 ≠ l2 := by have := au kV; omega
 replace kW := bK.ag kW
 have alN : b4_28 ≠ D2 := by have := au kW; omega
 have zF : b4_28 ≠ l2 := by have := au kW; omega
 replace kX := bK.ag kX
 have alO : b5_28 ≠ D2 := by have := au kX; omega
 have zG : b5_28 ≠ l2 := by have := au kX; omega
 replace hF := (hF.go0 aT).go0 bK
 have nG : w.heap.size ≤ D2 := by have := hF.size; omega
 have jK : w.heap.size ≤ l2 := by have := hF.size; omega
 have fQ : D2 ≠ l2 := by omega
 replace ae := ae.ai cZ
 replace ah := cZ.ag ah
 replace aN := cZ.ag aN
 replace af := cZ.ag af
 replace kV := cZ.ag kV
 replace kW := cZ.ag kW
 replace kX := cZ.ag kX
 replace hF := hF.go0 cZ
 refine Calls.mono (CE (b3 := b3_28) (b4 := b4_28) (b5 := b5_28) (J := (fun (k : Nat) (w' : World) => (Z.h w' bp #[Z.i r, Z.i c, .slice A n cp, Z.i b.cur] 91) ∧ (Own B0 w' 37 5 (.slice A n cp) (rows Gs.cv (Gs.o5 b.cs ((Gs.qH (Gs.aU r c) b.at' o.a).take k)))) ∧ (Z.h w' bb #[Z.p bp, Z.i ({ b with at' := o.a } : Gs.Br).at', Z.u ({ b with at' := o.a } : Gs.Br).lk.b, .bool ({ b with at' := o.a } : Gs.Br).lk.ge, .bool ({ b with at' := o.a } : Gs.Br).lk.st, Z.u ({ b with at' := o.a } : Gs.Br).lk.l, Z.u ({ b with at' := o.a } : Gs.Br).lk.c, .bool ({ b with at' := o.a } : Gs.Br).ld] 229) ∧ (Z.h w' b1 #[Z.p bb] 227) ∧ (Z.h w' b3_28 #[Z.i r, Z.i c] 32) ∧ (Z.h w' b4_28 #[Z.i b.at'] 3) ∧ (Z.h w' b5_28 #[Z.i o.a] 3) ∧ (w'.heap[D2]? = some (.deferred (some []))) ∧ (w'.heap[l2]? = some Rdy2) ∧ (az (fun k => (aC (.slice A n cp) k ∨ k = bp) ∨ k = bb) w w'))) (X := (fun _ => False)) (fun _ w' hJ => by obtain ⟨af, ae, aN, ah, kV, kW, kX, aZ, bg, hF⟩ := hJ; exact ⟨kV, kW, kX⟩) (fun _ w' w'' hJ U' => by obtain ⟨af, ae, aN, ah, kV, kW, kX, aZ, bg, hF⟩ := hJ; exact ⟨U'.ag af, ae.ai U', U'.ag aN, U'.ag ah, U'.ag kV, U'.ag kW, U'.ag kX, U'.ag aZ, U'.ag bg, hF.go0 U'⟩) ?_ ?_) ?_
 intro k qj xk hx hI
 obtain ⟨af, ae, aN, ah, kV, kW, kX, aZ, bg, hF⟩ := hI
 have hwk := Gs.ET hcw ((Gs.qH (Gs.aU r c) b.at' o.a).take k)
 have hlk := hn.trans hwk.2.symm
 refine hY [Z.i xk] _ _ rfl bg ?_
 simp only [List.getD_cons_zero, List.getD_cons_succ]
 refine wM bg (fun uM bg _ dI => ?_)
 replace ah := dI.ak ah iJ
 refine Z.l ah ?_
 refine dm ?_
 refine Z.f 0 ?_
 replace aN := dI.ak aN Gi
 refine Z.l aN ?_
 replace ae := ae.aA dI fD
 replace af := dI.ak af iE
 refine dS (nN af ae hlk hN hb hwk.1 (i := xk)) (fun sJ dw h14 => ?_) (fun sJ dw h14 => ?_)
 refine aH ?_
 replace ah := dw.ag ah
 refine Z.l ah ?_
 refine dm ?_
 refine Z.f 0 ?_
 replace aN := dw.ag aN
 refine Z.l aN ?_
 refine aj (bz (l := [(0, 1), (1, 1), (2, 1), (3, 1), (4, 1)]) (z := #[Z.u 0, .bool false, .bool false, Z.u 0, Z.u 0]) (cs := (Gs.cv Gs.zc)) (by kernel_rfl) (by rfl)) ?_
 replace ae := ae.ai dw
 replace af := dw.ag af
 refine aJ (jG af ae hlk (i := xk) (x := Gs.zc)) (fun v15 uN D15 => ?_)
 obtain ⟨rfl, N15, dH⟩ := D15
 have aK := ae
 replace af := dH.get af (fun h => Own.aP aK af (by decide) _ h rfl)
 replace ae := N15
 replace aN := dH.get aN (fun h => Own.aP aK aN (by decide) _ h rfl)
 replace ah := dH.get ah (fun h => gV _ h rfl)
 replace kV := dw.ag (dI.ak kV zD)
 replace kV := dH.get kV (fun h => OI _ h rfl)
 replace kW := dw.ag (dI.ak kW zF)
 replace kW := dH.get kW (fun h => OJ _ h rfl)
 replace kX := dw.ag (dI.ak kX zG)
 replace kX := dH.get kX (fun h => OL _ h rfl)
 replace aZ := dw.ag (dI.ak aZ fQ)
 replace aZ := dH.get aZ (fun h => rU _ h rfl)
 replace bg := dw.ag bg
 replace bg := dH.get bg (fun h => fD _ h rfl)
 replace hF := (hF.go1 dI jK).go0 dw
 replace hF := hF.go dH (fun i h hs => .inl (.inl hs))
 clear aK
 refine rP bg (fun w16 bg _ bZ => ?_)
 replace ae := ae.aA bZ fD
 replace af := bZ.ak af iE
 replace aN := bZ.ak aN Gi
 replace ah := bZ.ak ah iJ
 replace kV := bZ.ak kV zD
 replace kW := bZ.ak kW zF
 replace kX := bZ.ak kX zG
 replace aZ := bZ.ak aZ fQ
 replace hF := hF.go1 bZ jK
 exact ⟨af, (by rw [Gs.Bg hx]; (rw [if_pos (by assumption)]; exact ae)), aN, ah, kV, kW, kX, aZ, bg, hF⟩
 refine aB ?_
 replace bg := dw.ag bg
 refine rP bg (fun uo bg _ bY => ?_)
 replace kV := bY.ak (dw.ag (dI.ak kV zD)) zD
 replace kW := bY.ak (dw.ag (dI.ak kW zF)) zF
 replace kX := bY.ak (dw.ag (dI.ak kX zG)) zG
 replace aZ := bY.ak (dw.ag (dI.ak aZ fQ)) fQ
 replace hF := ((hF.go1 dI jK).go0 dw).go1 bY jK
 replace ae := (ae.ai dw).aA bY fD
 replace af := bY.ak (dw.ag af) iE
 replace aN := bY.ak (dw.ag aN) Gi
 replace ah := bY.ak (dw.ag ah) iJ
 exact ⟨af, (by rw [Gs.Bg hx]; (rw [if_neg (Bool.eq_false_iff.1 (by assumption))]; exact ae)), aN, ah, kV, kW, kX, aZ, bg, hF⟩
 exact ⟨af, (by simpa [Gs.o5] using ae), aN, ah, kV, kW, kX, aZ, bg, hF⟩
 rintro e wE2 ⟨hv, hI | hI⟩
 obtain ⟨af, ae, aN, ah, kV, kW, kX, aZ, bg, hF⟩ := hI
 refine ⟨hv, .inl ⟨bg, fun uY _ dE => ?_⟩⟩
 refine hJ1 _ _ ?_
 replace ae := ae.aA dE fD
 replace af := dE.ak af iE
 replace aN := dE.ak aN Gi
 replace aZ := dE.ak aZ fQ
 replace hF := hF.go1 dE jK
 exact ⟨_, (by rfl), nG, aZ, hj, af, (by rw [List.take_of_length_le (Nat.le_refl _)] at ae; exact ae), aN, hF⟩
 exact hI.elim
 obtain ⟨D2, g1000000, nG, aZ, hj, af, ae, aN, hF⟩ := hI
 rw [g1000000]
 refine leave1 aZ (fun wE _ dJ => ?_)
 replace ae := ae.aA dJ (Own.lh ae (by assumption))
 replace af := dJ.ak af (by omega)
 replace aN := dJ.ak aN (by omega)
 replace hF := hF.go1 dJ nG
 rw [Gs.ahY (o := o.m) (b := b) hj, show (b.cs.length : Int) = Gs.aU r c by rw [hN, ← hn]]; exact ⟨_, rfl, rfl, af, ae, aN, hF⟩
set_option maxHeartbeats 1000000 in
theorem ahZ {r c : Int} {A : Option Addr} {n cp bp bb B0 : Nat} {b : Gs.Br} {w : World} (af : Z.h w bp #[Z.i r, Z.i c, .slice A n cp, Z.i b.cur] 91) (ae : Own B0 w 37 5 (.slice A n cp) (rows Gs.cv b.cs)) (aN : Z.h w bb #[Z.p bp, Z.i b.at', Z.u b.lk.b, .bool b.lk.ge, .bool b.lk.st, Z.u b.lk.l, Z.u b.lk.c, .bool b.ld] 229) (hB : Gs.Bw r c n b) {o : Gs.iV} (dK : Gs.kz w [o]) (hwo : Gs.yL o) (hlo : o.ds.length ≤ 100000 ∧ o.ps.length ≤ 100000) (na1 : [o] = [] ∨ ∀ k, Gs.jI [o] k → ¬ aC (.slice A n cp) k) (na2 : [o] = [] ∨ ∀ k, Gs.jI [o] k → k ≠ bp) (na3 : [o] = [] ∨ ∀ k, Gs.jI [o] k → k ≠ bb) :
    oX 171 #[Z.p bb, .agg (Gs.oe o).toArray] w fun e w' => ∃ v, e = .returned v ∧ v = Z.i (Gs.tK o.m b).2 ∧ Z.h w' bp #[Z.i r, Z.i c, .slice A n cp, Z.i (Gs.tK o.m b).1.cur] 91 ∧ Own B0 w' 37 5 (.slice A n cp) (rows Gs.cv (Gs.tK o.m b).1.cs) ∧ Z.h w' bb #[Z.p bp, Z.i (Gs.tK o.m b).1.at', Z.u (Gs.tK o.m b).1.lk.b, .bool (Gs.tK o.m b).1.lk.ge, .bool (Gs.tK o.m b).1.lk.st, Z.u (Gs.tK o.m b).1.lk.l, Z.u (Gs.tK o.m b).1.lk.c, .bool (Gs.tK o.m b).1.ld] 229 ∧ az (fun k => (aC (.slice A n cp) k ∨ k = bp) ∨ k = bb) w w' := by
 refine Zy.calls ?_
 unfold Zy
 obtain ⟨hW, hat, hlw⟩ := id hB
 obtain ⟨hn, hcw, hcu, hp, hN, hb⟩ := id hW
 have hF : az (fun k => (aC (.slice A n cp) k ∨ k = bp) ∨ k = bb) w w := Fr.refl _ _ _
 refine Z.x ((Gs.oe o).toArray) (fun b1 w1 e1 ah _ U1 => ?_)
 have jW : bp ≠ b1 := by have := au af; omega
 have CB : bb ≠ b1 := by have := au aN; omega
 refine bH (fun g w' => ∃ (m : Nat) (f : Gs.iU → Gs.Br → Gs.Br × Int), (g 5 = .func (.func m) #[] #[]) ∧ (((Tryz.prog.funcs[m]?).any fun fn => fn.body.isSome && !(fn.name == "runtime.NumGoroutine")) = true) ∧ (Gs.og o.m.k = some f) ∧ (BrC m f o r c A n cp bp bb B0 b) ∧ (Z.h w' bp #[Z.i r, Z.i c, .slice A n cp, Z.i b.cur] 91) ∧ (Own B0 w' 37 5 (.slice A n cp) (rows Gs.cv b.cs)) ∧ (Z.h w' bb #[Z.p bp, Z.i b.at', Z.u b.lk.b, .bool b.lk.ge, .bool b.lk.st, Z.u b.lk.l, Z.u b.lk.c, .bool b.ld] 229) ∧ (Gs.kz w' [o]) ∧ (Z.h w' b1 ((Gs.oe o).toArray) 209) ∧ (az (fun k => (aC (.slice A n cp) k ∨ k = bp) ∨ k = bb) w w')) (fun J1 hJ1 => ?_) (fun gJ1 jX hI => ?_)
 refine Z.f 0 ?_
 refine Z.l ah ?_
 refine ay (dC _ _ _ _ _) (fun h2 => ?_) (fun h2 => ?_)
 refine aH ?_
 refine hJ1 _ _ ?_
 replace ae := ae.ai U1
 replace dK := dK.ai U1
 replace af := U1.ag af
 replace aN := U1.ag aN
 replace hF := hF.go0 U1
 exact ⟨182, Gs.xn, (by rfl), by kernel_rfl, (by show Gs.og o.k = some _; unfold Gs.og; repeat (first | rw [if_pos (by omega)] | rw [if_neg (by omega)])), (fun h1 h2 h3 h4 => acm h1 h2 h3 hB h4 hwo hlo na1 na2 na3), af, ae, aN, dK, ah, hF⟩
 refine aB ?_
 refine ay (dC _ _ _ _ _) (fun h3 => ?_) (fun h3 => ?_)
 refine aH ?_
 refine hJ1 _ _ ?_
 replace ae := ae.ai U1
 replace dK := dK.ai U1
 replace af := U1.ag af
 replace aN := U1.ag aN
 replace hF := hF.go0 U1
 exact ⟨183, Gs.xq, (by rfl), by kernel_rfl, (by show Gs.og o.k = some _; unfold Gs.og; repeat (first | rw [if_pos (by omega)] | rw [if_neg (by omega)])), (fun h1 h2 h3 h4 => TW h1 h2 h3 hB h4 hwo hlo na1 na2 na3), af, ae, aN, dK, ah, hF⟩
 refine aB ?_
 refine ay (dC _ _ _ _ _) (fun h4 => ?_) (fun h4 => ?_)
 refine aH ?_
 refine hJ1 _ _ ?_
 replace ae := ae.ai U1
 replace dK := dK.ai U1
 replace af := U1.ag af
 replace aN := U1.ag aN
 replace hF := hF.go0 U1
 exact ⟨184, Gs.oZ, (by rfl), by kernel_rfl, (by show Gs.og o.k = some _; unfold Gs.og; repeat (first | rw [if_pos (by omega)] | rw [if_neg (by omega)])), (fun h1 h2 h3 h4 => IG h1 h2 h3 hB h4 hwo hlo na1 na2 na3), af, ae, aN, dK, ah, hF⟩
 refine aB ?_
 refine bH (fun g w' => (g 15 = .bool (decide (o.k = 29 ∨ o.k = 41))) ∧ (Z.h w' bp #[Z.i r, Z.i c, .slice A n cp, Z.i b.cur] 91) ∧ (Own B0 w' 37 5 (.slice A n cp) (rows Gs.cv b.cs)) ∧ (Z.h w' bb #[Z.p bp, Z.i b.at', Z.u b.lk.b, .bool b.lk.ge, .bool b.lk.st, Z.u b.lk.l, Z.u b.lk.c, .bool b.ld] 229) ∧ (Gs.kz w' [o]) ∧ (Z.h w' b1 ((Gs.oe o).toArray) 209) ∧ (az (fun k => (aC (.slice A n cp) k ∨ k = bp) ∨ k = bb) w w')) (fun J2 hJ2 => ?_) (fun gJ2 RI hI => ?_)
 refine ay (dC _ _ _ _ _) (fun h5 => ?_) (fun h5 => ?_)
 refine aH ?_
 refine hJ2 _ _ ?_
 replace ae := ae.ai U1
 replace dK := dK.ai U1
 replace af := U1.ag af
 replace aN := U1.ag aN
 replace hF := hF.go0 U1
 exact ⟨(by exact congrArg Value.bool (decide_eq_true (by omega)).symm), af, ae, aN, dK, ah, hF⟩
 refine aB ?_
 refine ay (dC _ _ _ _ _) (fun h6 => ?_) (fun h6 => ?_)
 refine hJ2 _ _ ?_
 replace ae := ae.ai U1
 replace dK := dK.ai U1
 replace af := U1.ag af
 replace aN := U1.ag aN
 replace hF := hF.go0 U1
 exact ⟨(by exact congrArg Value.bool (decide_eq_true (by omega)).symm), af, ae, aN, dK, ah, hF⟩
 refine hJ2 _ _ ?_
 replace ae := ae.ai U1
 replace dK := dK.ai U1
 replace af := U1.ag af
 replace aN := U1.ag aN
 replace hF := hF.go0 U1
 exact ⟨(by exact congrArg Value.bool (decide_eq_false (by omega)).symm), af, ae, aN, dK, ah, hF⟩
 replace ae := ae.ai U1
 replace dK := dK.ai U1
 replace af := U1.ag af
 replace aN := U1.ag aN
 replace hF := hF.go0 U1
 obtain ⟨g15, af, ae, aN, dK, ah, hF⟩ := hI
 rw [g15]
 refine jZ (fun h7 => ?_) (fun h7 => ?_)
 simp only [Z.d, Z.c] at h7
 refine hJ1 _ _ ?_
 exact ⟨185, Gs.uu, (by rfl), by kernel_rfl, (by show Gs.og o.k = some _; unfold Gs.og; repeat (first | rw [if_pos (by omega)] | rw [if_neg (by omega)])), (fun h1 h2 h3 h4 => aao h1 h2 h3 hB h4 hwo hlo na1 na2 na3), af, ae, aN, dK, ah, hF⟩
 simp only [Z.d, Z.c] at h7
 refine ay (dC _ _ _ _ _) (fun h8 => ?_) (fun h8 => ?_)
 refine aH ?_
 refine hJ1 _ _ ?_
 exact ⟨186, Gs.uw, (by rfl), by kernel_rfl, (by show Gs.og o.k = some _; unfold Gs.og; repeat (first | rw [if_pos (by omega)] | rw [if_neg (by omega)])), (fun h1 h2 h3 h4 => aap h1 h2 h3 hB h4 hwo hlo na1 na2 na3), af, ae, aN, dK, ah, hF⟩
 refine aB ?_
 refine ay (dC _ _ _ _ _) (fun h9 => ?_) (fun h9 => ?_)
 refine aH ?_
 refine hJ1 _ _ ?_
 exact ⟨187, Gs.ni, (by rfl), by kernel_rfl, (by show Gs.og o.k = some _; unfold Gs.og; repeat (first | rw [if_pos (by omega)] | rw [if_neg (by omega)])), (fun h1 h2 h3 h4 => VU h1 h2 h3 hB h4 hwo hlo na1 na2 na3), af, ae, aN, dK, ah, hF⟩
 refine aB ?_
 refine ay (dC _ _ _ _ _) (fun h10 => ?_) (fun h10 => ?_)
 refine aH ?_
 refine hJ1 _ _ ?_
 exact ⟨188, Gs.qW, (by rfl), by kernel_rfl, (by show Gs.og o.k = some _; unfold Gs.og; repeat (first | rw [if_pos (by omega)] | rw [if_neg (by omega)])), (fun h1 h2 h3 h4 => VV h1 h2 h3 hB h4 hwo hlo na1 na2 na3), af, ae, aN, dK, ah, hF⟩
 refine aB ?_
 refine ay (dC _ _ _ _ _) (fun h11 => ?_) (fun h11 => ?_)
 refine aH ?_
 refine hJ1 _ _ ?_
 exact ⟨189, Gs.wI, (by rfl), by kernel_rfl, (by show Gs.og o.k = some _; unfold Gs.og; repeat (first | rw [if_pos (by omega)] | rw [if_neg (by omega)])), (fun h1 h2 h3 h4 => aet h1 h2 h3 hB h4 hwo hlo na1 na2 na3), af, ae, aN, dK, ah, hF⟩
 refine aB ?_
 refine ay (dC _ _ _ _ _) (fun h12 => ?_) (fun h12 => ?_)
 refine aH ?_
 refine hJ1 _ _ ?_
 exact ⟨190, Gs.vS, (by rfl), by kernel_rfl, (by show Gs.og o.k = some _; unfold Gs.og; repeat (first | rw [if_pos (by omega)] | rw [if_neg (by omega)])), (fun h1 h2 h3 h4 => VW h1 h2 h3 hB h4 hwo hlo na1 na2 na3), af, ae, aN, dK, ah, hF⟩
 refine aB ?_
 refine ay (dC _ _ _ _ _) (fun h13 => ?_) (fun h13 => ?_)
 refine aH ?_
 refine hJ1 _ _ ?_
 exact ⟨191, Gs.rC, (by rfl), by kernel_rfl, (by show Gs.og o.k = some _; unfold Gs.og; repeat (first | rw [if_pos (by omega)] | rw [if_neg (by omega)])), (fun h1 h2 h3 h4 => acv h1 h2 h3 hB h4 hwo hlo na1 na2 na3), af, ae, aN, dK, ah, hF⟩
 refine aB ?_
 rw [Gs.aj9 (o := o.m) (b := b) (by show Gs.og o.k = none; unfold Gs.og; repeat rw [if_neg (by omega)])]; exact ⟨_, rfl, rfl, af, ae, aN, hF⟩
 replace ae := ae.ai U1
 replace dK := dK.ai U1
 replace af := U1.ag af
 replace aN := U1.ag aN
 replace hF := hF.go0 U1
 obtain ⟨m, f, g5, hok5, hfm, hcl, af, ae, aN, dK, ah, hF⟩ := hI
 rw [g5]
 refine Z.b 6 ((Gs.oe o).toArray) ah ?_
 refine PE hok5 (by rfl) (aJ (hcl af ae aN dK) (fun v15 uN D15 => ?_))
 have aK := ae
 have ajI := hF.size
 obtain ⟨rfl, af, ae, aN, dH⟩ := D15
 replace ah := dH.get ah (fun hs => by rcases hs with (hs | hs) | hs <;> first | (first | exact Own.aP aK ah (by decide) _ hs rfl | (have := Own.ge aK hs; omega)) | (exact absurd hs (Ne.symm jW)) | (exact absurd hs (Ne.symm CB)))
 replace hF := hF.go dH (fun i hi hs => by exact hs)
 clear aK
 refine Z.f 0 ?_
 refine Z.l ah ?_
 refine ay (dC _ _ _ _ _) (fun h16 => ?_) (fun h16 => ?_)
 refine bI (bI (bI (bI (qA (qA (qA (qA (bI (bu ?_)))))))))
 refine dm ?_
 refine Z.f 7 ?_
 refine Z.s aN (fun uo aN _ bY => ?_)
 replace ae := ae.aA bY (Own.aP ae (by assumption) (by decide))
 replace af := bY.ak af (by exact fE (by assumption) (by assumption) (by decide))
 replace hF := hF.go bY (fun i _ h => .inr h)
 rw [Gs.TZ (b := b) hfm]; refine ⟨_, rfl, rfl, af, ae, ?_, hF⟩; have hld := (show Gs.Gj o.m = _ from Gs.OM (o := o.m) (.inl ⟨rfl, .inl (by assumption)⟩)); dsimp only; rw [hld]; exact aN
 refine bP ?_
 refine Z.f 0 ?_
 refine bP ?_
 refine Z.l ah ?_
 refine bP ?_
 refine ay (dC _ _ _ _ _) (fun h19 => ?_) (fun h19 => ?_)
 refine bP (bD ?_)
 refine Z.f 5 ?_
 refine bD ?_
 refine Z.l ah ?_
 refine bD ?_
 refine aj (gm (by kernel_rfl) _ _ _) ?_
 refine bD ?_
 refine aj (gtr _ _ _ _) ?_
 refine bP (bu (bG ?_))
 refine dm ?_
 refine Z.f 7 ?_
 refine Z.s aN (fun wE aN _ dJ => ?_)
 replace ae := ae.aA dJ (Own.aP ae (by assumption) (by decide))
 replace af := dJ.ak af (by exact fE (by assumption) (by assumption) (by decide))
 replace hF := hF.go dJ (fun i _ h => .inr h)
 rw [Gs.TZ (b := b) hfm]; refine ⟨_, rfl, rfl, af, ae, ?_, hF⟩; have hld := (show Gs.Gj o.m = _ from Gs.OM (o := o.m) (.inr (.inl ⟨by assumption, by assumption, rfl⟩))); dsimp only; rw [hld]; exact aN
 refine bP (bf (bf (bf (bf (bP (bG (bG ?_)))))))
 refine dm ?_
 refine Z.f 7 ?_
 refine Z.s aN (fun ED aN _ fB => ?_)
 replace ae := ae.aA fB (Own.aP ae (by assumption) (by decide))
 replace af := fB.ak af (by exact fE (by assumption) (by assumption) (by decide))
 replace hF := hF.go fB (fun i _ h => .inr h)
 rw [Gs.TZ (b := b) hfm]; refine ⟨_, rfl, rfl, af, ae, ?_, hF⟩; have hld := (show Gs.Gj o.m = _ from Gs.OM (o := o.m) (.inr (.inr ⟨by assumption, by assumption, rfl⟩))); dsimp only; rw [hld]; exact aN
end Go.Proofs.YtjdoakbadehicaaGreatDoor
end
section
namespace Gs
open Go Go.Sh
structure vT where
 rep : Int
 rs : Bool
 al : Bool
 er : Int
def re (x : vT) : List Value := [.int .u8 x.rep, .bool x.rs, .bool x.al, .int .i64 x.er]
def qp : vT := ⟨0, false, false, 0⟩
def wV (e : Int) : vT := ⟨0, false, false, e⟩
structure jb where
 r0 : Int
 c0 : Int
 r1 : Int
 c1 : Int
 wh : Int
 r : Int
 c : Int
 cs : List Cell
 cur : Int
def Sw (n : Nat) (s : jb) : Prop := (aU s.r0 s.c0 ≠ 0 ∧ aU s.r1 s.c1 ≠ 0) ∧ Pw s.r s.c n s.cs s.cur
def Gm (r c : Int) : List Cell := List.replicate (aU r c).toNat zc
def bM (s : jb) (wh : Int) : jb := if wh = 0 then { s with wh := 0, r := s.r0, c := s.c0, cs := Gm s.r0 s.c0, cur := 0 } else { s with wh := 1, r := s.r1, c := s.c1, cs := Gm s.r1 s.c1, cur := 0 }
def DN (cs : List Cell) : List Cell := nZ (o5 cs (eU cs)) (bQ (o5 cs (eU cs)))
def UJ (c : su) (e : Int) : vT := if e = 0 then ⟨0, decide (c.w / 2 % 2 = 1), decide (c.w / 4 % 2 = 1), 0⟩ else wV e
def II (s : jb) (i : Int) : Br := ⟨s.cs, s.cur, i, zc, false⟩
def rE (s : jb) (c : su) (i : Int) : jb × vT :=
 ({ s with cs := (lF c.os (II s i)).1.cs, cur := (lF c.os (II s i)).1.cur }, UJ c (if (lF c.os (II s i)).2 = 0 then c.e else (lF c.os (II s i)).2))
def iW (s : jb) (c : su) (wh : Int) : jb × vT := rE (bM s wh) c 0
def ao2 (s : jb) : jb := { s with cs := sN s.cs (bQ s.cs) }
def Gn (s : jb) (w : Int) : jb := { s with cs := if w % 2 = 1 then sN s.cs (bQ s.cs) else s.cs }
def aaY (s : jb) : jb := { s with cs := DN s.cs, cur := sD (DN s.cs) }
def pz (s : jb) (c : su) : jb × vT :=
 if c.k = 241 then rE (Gn s c.w) c s.cur else if c.k = 245 then iW s c 0 else if c.k = 126 then iW s c 1 else
 if c.k = 111 then (aaY s, ⟨0, true, false, 0⟩) else if c.k = 242 ∨ c.k = 246 ∨ c.k = 110 then (s, ⟨c.k, false, false, 0⟩) else (s, wV 30)
def gB (s : jb) (f : rY) : jb × vT :=
 if f.id = 1 then (s, ⟨f.op, false, false, 0⟩) else if f.id = 3 then (bM s (if f.op = 0 then 0 else 1), qp) else ((pz s f.c).1, { (pz s f.c).2 with rep := 0 })
def mrg (o r : vT) : vT := ⟨if o.rep = 0 then r.rep else o.rep, o.rs || r.rs, o.al || r.al, o.er⟩
def lm (e : Int) : List rY → jb → vT → jb × vT
 | [], s, o => (s, if e = 0 then o else wV e)
 | f :: fs, s, o => if (gB s f).2.er = 0 then lm e fs (gB s f).1 (mrg o (gB s f).2) else ((gB s f).1, wV (gB s f).2.er)
def Ae (s : jb) (c : qP) : jb × vT := if c.c.k = 243 then lm c.c.e c.fs s qp else pz s c.c
def EZ (b : List Int) : qP × Int := iL b.length b
def CU (s : jb) (b : List Int) : jb × vT := if (EZ b).2 = 0 then Ae s (EZ b).1 else (s, wV (EZ b).2)
section
variable {e : Int} {fs : List rY} {s : jb} {o : vT} {k : Nat} {f : rY} {x : jb × vT}
theorem V3 (h : x = lm e (fs.drop k) s o) (hk : fs.length ≤ k) : x = (s, if e = 0 then o else wV e) := by rw [h, List.drop_eq_nil_of_le hk]; rfl
theorem VZ (h : x = lm e (fs.drop k) s o) (hf : fs[k]? = some f) (he : ¬ (gB s f).2.er = 0) : x = ((gB s f).1, wV (gB s f).2.er) := by
 obtain ⟨hl, rfl⟩ := List.getElem?_eq_some_iff.1 hf
 rw [h, List.drop_eq_getElem_cons hl, lm, if_neg he]
theorem yD (h : x = lm e (fs.drop k) s o) (hf : fs[k]? = some f) (he : (gB s f).2.er = 0) : x = lm e (fs.drop (k + 1)) (gB s f).1 (mrg o (gB s f).2) := by
 obtain ⟨hl, rfl⟩ := List.getElem?_eq_some_iff.1 hf
 rw [h, List.drop_eq_getElem_cons hl, lm, if_pos he]
end
theorem CG (r c : Int) : (Gm r c).length = (aU r c).toNat := List.length_replicate ..
theorem amM (n : Nat) : jq (List.replicate n zc) := fun x hx => by rw [List.eq_of_mem_replicate hx]; exact Am
theorem Pw.new {r c : Int} (h : aU r c ≠ 0) : Pw r c (aU r c).toNat (Gm r c) 0 := by
 have h1 := zn r c
 exact ⟨(CG r c).symm, amM _, by omega, by omega, by omega, by omega⟩
theorem Pw.len {r c cur : Int} {n : Nat} {cs : List Cell} (h : Pw r c n cs cur) : Pw r c cs.length cs cur := h.1 ▸ h
theorem Sw.len {n : Nat} {s : jb} (h : Sw n s) : Sw s.cs.length s := ⟨h.1, h.2.len⟩
theorem Sw.renew {n : Nat} {s : jb} (h : Sw n s) (wh : Int) : Sw (bM s wh).cs.length (bM s wh) := by
 unfold bM
 split
 ·exact ⟨h.1, (Pw.new h.1.1).len⟩
 ·exact ⟨h.1, (Pw.new h.1.2).len⟩
theorem Bw.aaZ {r c : Int} {n : Nat} : ∀ {os : List iU} {b : Br}, Bw r c n b → (∀ o ∈ os, (0 ≤ o.b ∧ o.b ≤ 255) ∧ Bs o.ds) → Bw r c n (lF os b).1
 | [], b, h, _ => h
 | o :: os, b, h, hw => by
  have h1 := hw o (List.mem_cons_self ..)
  have h2 := h.do h1.1 h1.2
  unfold lF
  split
  ·exact Bw.aaZ h2 fun x hx => hw x (List.mem_cons_of_mem _ hx)
  ·exact h2
def rZ (os : List iU) : Prop := ∀ o ∈ os, (0 ≤ o.b ∧ o.b ≤ 255) ∧ Bs o.ds
theorem rZ.of {l : List iV} (h : BM l) : rZ (wF l) := fun o ho => by
 obtain ⟨x, hx, rfl⟩ := List.mem_map.1 ho
 exact ⟨(h x hx).2.1, (h x hx).2.2.1⟩
theorem Bw.of {s : jb} {n : Nat} (h : Sw n s) {i : Int} (hi : 0 ≤ i ∧ i < n) : Bw s.r s.c n (II s i) := ⟨h.2, hi, Am⟩
theorem Sw.write {n : Nat} {s : jb} (h : Sw n s) {c : su} (hw : rZ c.os) {i : Int} (hi : 0 ≤ i ∧ i < n) : Sw n (rE s c i).1 := ⟨h.1, (Bw.aaZ (Bw.of h hi) hw).1⟩
theorem Sw.erase {n : Nat} {s : jb} (h : Sw n s) {c : su} (hw : rZ c.os) (wh : Int) : Sw (bM s wh).cs.length (iW s c wh).1 := by
 have h1 := h.renew wh
 have h2 := h1.2.2.2.1
 have h3 : (bM s wh).cur = 0 := by unfold bM; split <;> rfl
 exact h1.write hw ⟨by omega, by omega⟩
theorem Sw.unm {n : Nat} {s : jb} (h : Sw n s) : Sw n (ao2 s) := ⟨h.1, h.2.unm _⟩
theorem Sw.cln {n : Nat} {s : jb} (h : Sw n s) (w : Int) : Sw n (Gn s w) := by unfold Gn; split; exact h.unm; exact h
theorem PX (cs : List Cell) : (DN cs).length = cs.length := by
 unfold DN
 rw [← uG]
 unfold o5
 have : ∀ (l : List Int) (c : List Cell), (l.foldl (fun cs i => if kG cs i = true then jo cs i zc else cs) c).length = c.length := by
  intro l
  induction l with
  | nil => exact fun _ => rfl
  | cons i l ih =>
   intro c
   rw [List.foldl_cons, ih]
   split
   ·exact mr ..
   ·rfl
 exact this _ _
theorem aiK {cs : List Cell} (h : jq cs) : jq (DN cs) := AU (ET h _).1 _
theorem Sw.opn {n : Nat} {s : jb} (h : Sw n s) : Sw n (aaY s) := by
 have hn := h.2.1
 have hp := h.2.2.2.2.1
 have hl := PX s.cs
 have hh := Ji (cs := DN s.cs) (by omega)
 exact ⟨h.1, ⟨hn.trans hl.symm, aiK h.2.2.1, by show 0 ≤ sD _ ∧ sD _ < _; omega, h.2.2.2.2⟩⟩
theorem Sw.XO {n : Nat} {s : jb} (h : Sw n s) {c : su} (hw : rZ c.os) : Sw (pz s c).1.cs.length (pz s c).1 := by
 unfold pz
 split
 ·exact ((h.cln _).write hw (h.2.2.2.1)).len
 split
 ·exact (h.erase hw 0).len
 split
 ·exact (h.erase hw 1).len
 split
 ·exact h.opn.len
 split <;> exact h.len
theorem Sw.field {n : Nat} {s : jb} (h : Sw n s) {f : rY} (hw : rZ f.c.os) : Sw (gB s f).1.cs.length (gB s f).1 := by
 unfold gB
 split
 ·exact h.len
 split
 ·exact h.renew _
 ·exact h.XO hw
theorem Sw.fields {e : Int} : ∀ {fs : List rY} {n : Nat} {s : jb} {o : vT}, Sw n s → (∀ f ∈ fs, rZ f.c.os) → Sw (lm e fs s o).1.cs.length (lm e fs s o).1
 | [], n, s, o, h, _ => h.len
 | f :: fs, n, s, o, h, hw => by
  have h1 := h.field (hw f (List.mem_cons_self ..))
  unfold lm
  split
  ·exact Sw.fields h1 fun x hx => hw x (List.mem_cons_of_mem _ hx)
  ·exact h1
theorem akd {c : su} {e : Int} (h : e = 0) : UJ c e = ⟨0, decide (c.w / 2 % 2 = 1), decide (c.w / 4 % 2 = 1), 0⟩ := by unfold UJ; rw [if_pos h]
theorem akc {c : su} {e : Int} (h : ¬ e = 0) : UJ c e = wV e := by unfold UJ; rw [if_neg h]
theorem aka {x : o8} {S : Nat → Prop} (h : [(⟨0, 0, x⟩ : Fd)] = [] ∨ ∀ k, kZ [⟨0, 0, x⟩] k → S k) : rows oe x.os = [] ∨ ∀ k, fO x.oA k → S k := by
 by_cases hx : x.os = []
 ·left; rw [hx]; rfl
 ·right
  intro k hk
  rcases h with h | h
  ·cases h
  ·exact h k ⟨_, List.mem_cons_self .., hx, .inl hk⟩
theorem akb {x : o8} {S : Nat → Prop} (h : [(⟨0, 0, x⟩ : Fd)] = [] ∨ ∀ k, kZ [⟨0, 0, x⟩] k → S k) : x.os = [] ∨ ∀ k, jI x.os k → S k := by
 by_cases hx : x.os = []
 ·exact .inl hx
 ·right
  intro k hk
  rcases h with h | h
  ·cases h
  ·exact h k ⟨_, List.mem_cons_self .., hx, .inr hk⟩
theorem aat {x y : Fd} {S : Nat → Prop} (e : x.c = y.c) (h : [x] = [] ∨ ∀ k, kZ [x] k → S k) : [y] = [] ∨ ∀ k, kZ [y] k → S k := .inr fun k hk => by
 obtain ⟨z, hz, hb⟩ := hk
 cases List.mem_singleton.1 hz
 rcases h with h | h
 ·cases h
 ·exact h k ⟨x, List.mem_cons_self .., e ▸ hb⟩
theorem Uh {l : List Fd} {i : Nat} {x : Fd} {S : Nat → Prop} (h : l = [] ∨ ∀ k, kZ l k → S k) (hx : l[i]? = some x) : [x] = [] ∨ ∀ k, kZ [x] k → S k := .inr fun k hk => by
 rcases h with rfl | h
 ·simp at hx
 ·exact h k (ahj hx hk)
theorem EY {l : List Fd} {k : Nat} {x : Fd} (h : l[k]? = some x) : (qO l)[k]? = some x.m := by unfold qO; rw [List.getElem?_map, h]; rfl
section
variable {s : jb} {c : su} {f : rY}
theorem ami (h : c.k = 241) : pz s c = rE (Gn s c.w) c s.cur := by unfold pz; rw [if_pos h]
theorem amj (h : c.k = 245) : pz s c = iW s c 0 := by unfold pz; rw [if_neg (by omega), if_pos h]
theorem amk (h : c.k = 126) : pz s c = iW s c 1 := by unfold pz; rw [if_neg (by omega), if_neg (by omega), if_pos h]
theorem aml (h : c.k = 111) : pz s c = (aaY s, ⟨0, true, false, 0⟩) := by unfold pz; rw [if_neg (by omega), if_neg (by omega), if_neg (by omega), if_pos h]
theorem amm (h : c.k = 242 ∨ c.k = 246 ∨ c.k = 110) : pz s c = (s, ⟨c.k, false, false, 0⟩) := by unfold pz; rw [if_neg (by omega), if_neg (by omega), if_neg (by omega), if_neg (by omega), if_pos h]
theorem amn (h : ¬ (c.k = 241 ∨ c.k = 245 ∨ c.k = 126 ∨ c.k = 111 ∨ c.k = 242 ∨ c.k = 246 ∨ c.k = 110)) : pz s c = (s, wV 30) := by unfold pz; rw [if_neg (by omega), if_neg (by omega), if_neg (by omega), if_neg (by omega), if_neg (by omega)]
theorem ah1 (h : f.id = 1) : gB s f = (s, ⟨f.op, false, false, 0⟩) := by unfold gB; rw [if_pos h]
theorem ah2 (h : f.id = 3) : gB s f = (bM s (if f.op = 0 then 0 else 1), qp) := by unfold gB; rw [if_neg (by omega), if_pos h]
theorem ah3 (h1 : ¬ f.id = 1) (h : ¬ f.id = 3) : gB s f = ((pz s f.c).1, { (pz s f.c).2 with rep := 0 }) := by unfold gB; rw [if_neg h1, if_neg h]
end
theorem akf {xs : List Value} {A : Option Addr} {b b' B : Nat} (h : xs = [] ∨ ∀ k, fO A k → k ≠ b) (lt : IL A xs B) (hb : b' = b ∨ B ≤ b') : xs = [] ∨ ∀ k, fO A k → k ≠ b' := by
 rcases hb with rfl | hb
 ·exact h
 ·exact lt.imp_right fun h k hk e => by have := h k hk; omega
theorem amo {l : List Fd} {w : World} {b b' : Nat} (h : l = [] ∨ ∀ k, kZ l k → k ≠ b) (hc : iw w l) (hb : b' = b ∨ w.heap.size ≤ b') : l = [] ∨ ∀ k, kZ l k → k ≠ b' := by
 rcases hb with rfl | hb
 ·exact h
 ·exact hc.lt.imp_right fun h k hk e => by have := h k hk; omega
def Xy (l : List Fd) : Prop := ∀ x ∈ l, (EU x.c.os ∧ x.c.os.length ≤ 100000) ∧ (x.id = 1 ∨ x.id = 3 ∨ sH x.c.k)
theorem Xy.get {l : List Fd} (h : Xy l) {k : Nat} {x : Fd} (hx : l[k]? = some x) : (EU x.c.os ∧ x.c.os.length ≤ 100000) ∧ (x.id = 1 ∨ x.id = 3 ∨ sH x.c.k) := h x (List.mem_of_getElem? hx)
section
variable {o r : vT}
theorem akg (h : o.rs = true) (k : o.al = true) : mrg o r = ⟨if o.rep = 0 then r.rep else o.rep, true, true, o.er⟩ := by unfold mrg; rw [h, k]; rfl
theorem akh (h : o.rs = true) (k : o.al = false) : mrg o r = ⟨if o.rep = 0 then r.rep else o.rep, true, r.al, o.er⟩ := by unfold mrg; rw [h, k]; rfl
theorem akj (h : o.rs = false) (k : o.al = true) : mrg o r = ⟨if o.rep = 0 then r.rep else o.rep, r.rs, true, o.er⟩ := by unfold mrg; rw [h, k]; rfl
theorem akk (h : o.rs = false) (k : o.al = false) : mrg o r = ⟨if o.rep = 0 then r.rep else o.rep, r.rs, r.al, o.er⟩ := by unfold mrg; rw [h, k]; rfl
end
end Gs
namespace Gs
open Go Go.Sh
def AL (m : Nat) (os : List iU) : Prop := os.length ≤ m ∧ ∀ o ∈ os, o.ds.length ≤ m ∧ o.ps.length ≤ m
theorem AL.mono {m k : Nat} {os : List iU} (h : AL m os) (hk : m ≤ k) : AL k os := ⟨by have := h.1; omega, fun o ho => by have := h.2 o ho; omega⟩
theorem AL.nil (m : Nat) : AL m [] := ⟨Nat.zero_le _, fun o h => by cases h⟩
def XP (m : Nat) (f : rY) : Prop := AL m f.c.os ∧ (f.id = 1 ∨ f.id = 3 ∨ sH f.c.k)
def CmS (m : Nat) (c : qP) : Prop := AL m c.c.os ∧ ∀ f ∈ c.fs, XP m f
theorem aiL {P : List Int → qP × Int} (hP : ∀ b, CmS b.length (P b).1) {b : List Int} {f : rY} (h : DY P b = some f) : XP b.length f := by
 unfold DY at h
 split at h
 ·rename_i x r
  split at h
  ·unfold Dk at h
   split at h
   ·split at h
    ·cases h; exact ⟨AL.nil _, .inl rfl⟩
    ·cases h
   ·cases h
  split at h
  ·unfold zQ at h
   split at h
   ·split at h
    ·cases h; exact ⟨AL.nil _, .inr (.inl rfl)⟩
    ·cases h
   ·cases h
  split at h
  ·unfold writeM' at h
   split at h
   ·rename_i y z t
    split at h
    ·rename_i hc
     cases h
     exact ⟨(hP (z :: t)).1.mono (by simp only [List.length_cons]; omega), .inr (.inr hc.2.2)⟩
    ·cases h
   ·cases h
  ·cases h
 ·cases h
theorem XP.mono {m k : Nat} {f : rY} (h : XP m f) (hk : m ≤ k) : XP k f := ⟨h.1.mono hk, h.2⟩
theorem NH {P : List Int → qP × Int} (hP : ∀ b, CmS b.length (P b).1) : ∀ (m : Nat) (b : List Int), b.length ≤ m → ∀ f ∈ (jH P b).1, XP b.length f
 | 0, b, hb, f, hf => by
  obtain rfl := List.length_eq_zero_iff.1 (Nat.le_zero.1 hb)
  rw [rO] at hf; cases hf
 | m + 1, b, hb, f, hf => by
  by_cases h0 : b = []
  ·subst h0; rw [rO] at hf; cases hf
  ·rw [jH, if_neg h0] at hf
   split at hf
   ·cases hf
   ·rename_i x r hc
    have hl := uZ hc
    split at hf
    ·cases hf
    ·rename_i g hg
     rcases List.mem_cons.1 hf with rfl | hf
     ·exact (aiL hP hg).mono (by omega)
     ·exact (NH hP m r (by omega) f hf).mono (by omega)
theorem Qq : ∀ (N : Nat) (b : List Int), CmS b.length (iL N b).1
 | 0, b => ⟨AL.nil _, fun f h => by cases h⟩
 | N + 1, b => by
  unfold iL
  split
  ·exact ⟨AL.nil _, fun f h => by cases h⟩
  ·rename_i x r
   split
   ·exact ⟨AL.nil _, fun f h => by cases h⟩
   ·split
    ·split
     ·exact ⟨AL.nil _, fun f h => by cases h⟩
     ·rename_i w r'
      have h1 := Qc r'.length r' (Nat.le_refl _)
      exact ⟨⟨by show (jl r').1.length ≤ _; simp only [List.length_cons]; omega, fun o ho => by have := h1.2 o ho; simp only [List.length_cons]; omega⟩, fun f h => by cases h⟩
    ·split
     ·refine ⟨AL.nil _, fun f hf => ?_⟩
      exact (NH (Qq N) r.length r (Nat.le_refl _) f hf).mono (by simp only [List.length_cons]; omega)
     ·exact ⟨AL.nil _, fun f h => by cases h⟩
theorem adg {os : List iV} {m : Nat} (h : AL m (wF os)) (hm : m ≤ 100000) : EU os ∧ os.length ≤ 100000 := by
 have h1 := h.1
 rw [Xv] at h1
 refine ⟨fun x hx => ?_, by omega⟩
 have h2 : x.ds.length ≤ m ∧ x.ps.length ≤ m := h.2 x.m (List.mem_map.2 ⟨x, hx, rfl⟩)
 exact ⟨by omega, by omega⟩
theorem aex {N : Nat} {b : List Int} {x : o8} {fs : List Fd} {er : Int} (h : iL N b = (⟨x.m, qO fs⟩, er)) (hb : b.length ≤ 100000) : (EU x.os ∧ x.os.length ≤ 100000) ∧ Xy fs := by
 have hk := Qq N b
 rw [h] at hk
 refine ⟨adg hk.1 hb, fun f hf => ?_⟩
 have h2 := hk.2 f.m (List.mem_map.2 ⟨f, hf, rfl⟩)
 exact ⟨adg h2.1 hb, h2.2⟩
theorem JW {P : List Int → qP × Int} : ∀ {n : Nat} {b : List Int}, b.length ≤ n → (jH P b).1.length ≤ b.length
 | 0, b, hb => by
  obtain rfl := List.length_eq_zero_iff.1 (Nat.le_zero.1 hb)
  rw [rO]; exact Nat.le_refl _
 | n + 1, b, hb => by
  by_cases h0 : b = []
  ·subst h0; rw [rO]; exact Nat.le_refl _
  ·rw [jH, if_neg h0]
   split
   ·exact Nat.zero_le _
   ·rename_i x r hc
    have hl := uZ hc
    split
    ·exact Nat.zero_le _
    ·have := JW (P := P) (n := n) (b := r) (by omega)
     simp only [List.length_cons]; omega
theorem ae7 {N : Nat} {b : List Int} : (iL N b).1.fs.length ≤ b.length := by
 cases N with
 | zero => exact Nat.zero_le _
 | succ N =>
  unfold iL
  split
  ·exact Nat.zero_le _
  ·rename_i x r
   split
   ·exact Nat.zero_le _
   ·split
    ·split <;> exact Nat.zero_le _
    ·split
     ·have := JW (P := iL N) (n := r.length) (b := r) (Nat.le_refl _)
      show (jH (iL N) r).1.length ≤ _
      simp only [List.length_cons]; omega
     ·exact Nat.zero_le _
theorem aey {N : Nat} {b : List Int} {x : o8} {fs : List Fd} {er : Int} (h : iL N b = (⟨x.m, qO fs⟩, er)) (hb : b.length ≤ 100000) : fs.length ≤ 100000 := by
 have := ae7 (N := N) (b := b)
 rw [h] at this
 have h2 : (qO fs).length ≤ b.length := this
 rw [WL] at h2; omega
theorem amq {s : jb} {c : qP} (h : c.c.k = 243) : Ae s c = lm c.c.e c.fs s qp := by unfold Ae; rw [if_pos h]
theorem amr {s : jb} {c : qP} (h : ¬ c.c.k = 243) : Ae s c = pz s c.c := by unfold Ae; rw [if_neg h]
theorem akl {s : jb} {b : List Int} {x : qP} {e : Int} (h : iL b.length b = (x, e)) (he : ¬ e = 0) : CU s b = (s, wV e) := by unfold CU EZ; rw [h]; dsimp only; rw [if_neg he]
theorem akm {s : jb} {b : List Int} {x : qP} {e : Int} (h : iL b.length b = (x, e)) (he : e = 0) : CU s b = Ae s x := by unfold CU EZ; rw [h]; dsimp only; rw [if_pos he]
theorem Sw.Ae {n : Nat} {s : jb} (h : Sw n s) {x : o8} {fs : List Fd} (hx : AA x) (hf : BI fs) : Sw (Gs.Ae s ⟨x.m, qO fs⟩).1.cs.length (Gs.Ae s ⟨x.m, qO fs⟩).1 := by
 unfold Gs.Ae
 split
 ·refine h.fields fun f hm => ?_
  obtain ⟨y, hy, rfl⟩ := List.mem_map.1 hm
  exact rZ.of (hf y hy).2.2.2.2
 ·exact h.XO (rZ.of hx.2.2)
end Gs
end
section
namespace Go.Proofs.YtjdoakbadehicaaGreatDoor
open Go Go.Sh
set_option maxRecDepth 100000
theorem Ox {r c cur : Int} {A : Option Addr} {n cp bp B0 : Nat} {cs : List Gs.Cell} {w : World} (af : Z.h w bp #[Z.i r, Z.i c, .slice A n cp, Z.i cur] 91) (ae : Own B0 w 37 5 (.slice A n cp) (rows Gs.cv cs)) (hn : n = cs.length) (hN : Gs.aU r c = n) (hb : n ≤ 4096) (hcw : Gs.jq cs)  :
    oX 107 #[Z.p bp] w fun e w' => ∃ v, e = .returned v ∧ v = Z.i (Gs.Cc cs (Gs.bQ cs).length : Nat) ∧ Own B0 w' 37 5 (.slice A n cp) (rows Gs.cv (Gs.sN cs (Gs.bQ cs))) ∧ az (aC (.slice A n cp)) w w' := by
 refine Zk.calls ?_
 unfold Zk
 subst hn
 have hsl := Gs.pR cs
 have hF : az (aC (.slice A cs.length cp)) w w := Fr.refl _ _ _
 refine Z.x _ (fun b1 w1 e1 ah _ U1 => ?_)
 have gV := ae.apart e1
 refine Z.n (#[Z.i 0]) (fun b2 w2 e2 ax _ U2 => ?_)
 replace af := U1.ag af
 have fH : bp ≠ b2 := by have := au af; omega
 replace ae := ae.ai U1
 have dN := ae.apart e2
 have lJ : b1 ≠ b2 := by have := au ah; omega
 replace hF := hF.go0 U1
 have fF : w.heap.size ≤ b2 := by have := hF.size; omega
 refine Z.s ax (fun w3 ax _ U3 => ?_)
 refine bH (fun g w' => ∃ (D2 : Nat), (g 1000000 = mkV D2 undef) ∧ (w.heap.size ≤ D2) ∧ (w'.heap[D2]? = some (.deferred (some []))) ∧ (Z.h w' b2 #[Z.i (Gs.Cc cs (Gs.bQ cs).length : Nat)] 3) ∧ (Own B0 w' 37 5 (.slice A cs.length cp) (rows Gs.cv (Gs.sN cs (Gs.bQ cs)))) ∧ (az (aC (.slice A cs.length cp)) w w')) (fun J1 hJ1 => ?_) (fun gJ1 jX hI => ?_)
 replace ah := U3.ak (U2.ag ah) lJ
 refine Z.l ah ?_
 replace ae := (ae.ai U2).aA U3 dN
 replace af := U3.ak (U2.ag af) fH
 refine aJ (wO af ae rfl) (fun v4 w4 D4 => ?_)
 obtain ⟨b1_6, rfl, g1_6, mP, U4⟩ := D4
 have QM : ∀ k, aC _ k → k ≠ b1_6 := fun k hk => by have := (Own.ge ae hk).2; omega
 have ZW : b2 ≠ b1_6 := by have := au ax; omega
 refine tZ (by kernel_rfl) (fun w5 l2 D2 Rdy2 Bsy2 Dn2 y2 eD el aZ bg lp1 lp2 lp3 sz5 U5 hY => ?_)
 have lp2_2 := lp2
 replace af := U4.ag af
 have iE : bp ≠ l2 := by have := au af; omega
 replace ae := ae.ai U4
 have rU : ∀ k, aC _ k → k ≠ D2 := fun k hk => by have := (Own.ge ae hk).2; omega
 have fD : ∀ k, aC _ k → k ≠ l2 := fun k hk => by have := (Own.ge ae hk).2; omega
 replace ah := U4.ag ah
 have iJ : b1 ≠ l2 := by have := au ah; omega
 replace ax := U4.ag ax
 have uf : b2 ≠ D2 := by have := au ax; omega
 have gW : b2 ≠ l2 := by have := au ax; omega
 have Ba : b1_6 ≠ l2 := by have := au mP; omega
 replace hF := ((hF.go0 U2).go1 U3 fF).go0 U4
 have nG : w.heap.size ≤ D2 := by have := hF.size; omega
 have jK : w.heap.size ≤ l2 := by have := hF.size; omega
 have fQ : D2 ≠ l2 := by omega
 replace ae := ae.ai U5
 replace af := U5.ag af
 replace ah := U5.ag ah
 replace ax := U5.ag ax
 replace mP := U5.ag mP
 replace hF := hF.go0 U5
 refine Calls.mono (uq (b1 := b1_6) (csF := (fun k => Gs.sN cs ((Gs.bQ cs).take k))) (J := (fun (k : Nat) (w' : World) => (Z.h w' bp #[Z.i r, Z.i c, .slice A cs.length cp, Z.i cur] 91) ∧ (Own B0 w' 37 5 (.slice A cs.length cp) (rows Gs.cv (Gs.sN cs ((Gs.bQ cs).take k)))) ∧ (Z.h w' b2 #[Z.i (Gs.Cc cs k : Nat)] 3) ∧ (Z.h w' b1_6 #[Z.p bp] 33) ∧ (Z.h w' b1 #[Z.p bp] 33) ∧ (w'.heap[D2]? = some (.deferred (some []))) ∧ (w'.heap[l2]? = some Rdy2) ∧ (az (aC (.slice A cs.length cp)) w w'))) (X := (fun _ => False)) (fun _ w' hJ => by obtain ⟨af, ae, ax, mP, ah, aZ, bg, hF⟩ := hJ; exact ⟨mP, af, ae⟩) (fun _ w' w'' hJ U' => by obtain ⟨af, ae, ax, mP, ah, aZ, bg, hF⟩ := hJ; exact ⟨U'.ag af, ae.ai U', U'.ag ax, U'.ag mP, U'.ag ah, U'.ag aZ, U'.ag bg, hF.go0 U'⟩) (fun _ _ h _ => h.elim) (fun _ => Gs.Jj cs _) (fun _ => Gs.QY hcw _) (fun _ _ => by rw [Gs.abL, Gs.abL]) hN hb ?_ ?_) ?_
 intro k qj xk hx hI
 obtain ⟨af, ae, ax, mP, ah, aZ, bg, hF⟩ := hI
 have hx : (Gs.bQ cs)[k]? = some xk := hx
 have hk := (List.getElem?_eq_some_iff.1 hx).1
 have hxm := Gs.rf.1 (List.mem_of_getElem? hx)
 have hxn := hxm.1
 have hle := Gs.ahB cs k
 refine hY [.agg (Gs.fv (Gs.je (Gs.sN cs ((Gs.bQ cs).take k)) xk)).toArray] _ _ rfl bg ?_
 simp only [List.getD_cons_zero, List.getD_cons_succ]
 refine Z.n ((Gs.fv Gs.zf).toArray) (fun b6 w6 e6 nY _ U6 => ?_)
 have vG : bp ≠ b6 := by have := au af; omega
 have oV := ae.apart e6
 have Ce : b2 ≠ b6 := by have := au ax; omega
 have MM : b1_6 ≠ b6 := by have := au mP; omega
 have FW : b1 ≠ b6 := by have := au ah; omega
 have Tm : D2 ≠ b6 := by have := au aZ; omega
 have Tn : l2 ≠ b6 := by have := au bg; omega
 have wY : w.heap.size ≤ b6 := by have := hF.size; omega
 refine Z.t 3 ((Gs.fv (Gs.je (Gs.sN cs ((Gs.bQ cs).take k)) xk)).toArray) (by (simp [Value.cells, Value.oneCell', Gs.cv, Gs.fv]; done)) nY (fun w7 nY _ U7 => ?_)
 replace bg := U7.ak (U6.ag bg) Tn
 refine wM bg (fun w8 bg _ U8 => ?_)
 refine Z.f 2 ?_
 replace nY := U8.ak nY (Ne.symm Tn)
 refine Z.l nY ?_
 refine dS (Dv (Gs.SN (Gs.QY hcw _) xk)) (fun w9 U9 h9 => ?_) (fun w9 U9 h9 => ?_)
 simp only [Z.d, Z.c] at h9
 refine aH ?_
 replace ax := U9.ag (U8.ak (U7.ak (U6.ag ax) Ce) gW)
 refine Z.l ax ?_
 refine aj (dF _ (by omega)) ?_
 refine Z.s ax (fun w10 ax _ aT => ?_)
 replace ah := aT.ak (U9.ag (U8.ak (U7.ak (U6.ag ah) FW) iJ)) lJ
 refine Z.l ah ?_
 refine Z.f 0 ?_
 replace nY := aT.ak (U9.ag nY) (Ne.symm Ce)
 refine Z.l nY ?_
 replace ae := ((((ae.ai U6).aA U7 oV).aA U8 fD).ai U9).aA aT dN
 replace af := aT.ak (U9.ag (U8.ak (U7.ak (U6.ag af) vG) iE)) fH
 refine aJ (KQ af ae (Gs.Jj cs _) hN hb (Gs.QY hcw _) (i := (xk : Int)) ⟨by omega, by rw [← Gs.Jj]; omega⟩) (fun v11 oz D11 => ?_)
 obtain ⟨N11, bK⟩ := D11
 have aK := ae
 replace af := bK.get af (fun h => Own.aP aK af (by decide) _ h rfl)
 replace ae := N11
 replace ax := bK.get ax (fun h => dN _ h rfl)
 replace mP := aT.ak (U9.ag (U8.ak (U7.ak (U6.ag mP) MM) Ba)) (Ne.symm ZW)
 replace mP := bK.get mP (fun h => QM _ h rfl)
 replace ah := bK.get ah (fun h => gV _ h rfl)
 replace aZ := aT.ak (U9.ag (U8.ak (U7.ak (U6.ag aZ) Tm) fQ)) (Ne.symm uf)
 replace aZ := bK.get aZ (fun h => rU _ h rfl)
 replace bg := aT.ak (U9.ag bg) (Ne.symm gW)
 replace bg := bK.get bg (fun h => fD _ h rfl)
 replace hF := ((((hF.go0 U6).go1 U7 wY).go1 U8 jK).go0 U9).go1 aT fF
 replace hF := hF.go bK (fun i h hs => by exact hs)
 clear aK
 refine rP bg (fun w12 bg _ cZ => ?_)
 replace ae := ae.aA cZ fD
 replace af := cZ.ak af iE
 replace ax := cZ.ak ax gW
 replace mP := cZ.ak mP Ba
 replace ah := cZ.ak ah iJ
 replace aZ := cZ.ak aZ fQ
 replace hF := hF.go1 cZ jK
 exact ⟨af, (by rw [Gs.Ti hx]; (rw [if_pos ((Gs.Jm hx).1 (by assumption))]; exact ae)), (by (rw [Gs.ajE hx ((Gs.Jm hx).1 (by assumption))]; exact ax)), mP, ah, aZ, bg, hF⟩
 simp only [Z.d, Z.c] at h9
 refine aB ?_
 replace bg := U9.ag bg
 refine rP bg (fun uM bg _ dI => ?_)
 replace ae := ((((ae.ai U6).aA U7 oV).aA U8 fD).ai U9).aA dI fD
 replace af := dI.ak (U9.ag (U8.ak (U7.ak (U6.ag af) vG) iE)) iE
 replace ax := dI.ak (U9.ag (U8.ak (U7.ak (U6.ag ax) Ce) gW)) gW
 replace mP := dI.ak (U9.ag (U8.ak (U7.ak (U6.ag mP) MM) Ba)) Ba
 replace ah := dI.ak (U9.ag (U8.ak (U7.ak (U6.ag ah) FW) iJ)) iJ
 replace aZ := dI.ak (U9.ag (U8.ak (U7.ak (U6.ag aZ) Tm) fQ)) fQ
 replace hF := ((((hF.go0 U6).go1 U7 wY).go1 U8 jK).go0 U9).go1 dI jK
 exact ⟨af, (by rw [Gs.Ti hx]; (rw [if_neg (fun ho => absurd ((Gs.Jm hx).2 ho) (by assumption))]; exact ae)), (by (rw [Gs.ajF hx (fun ho => absurd ((Gs.Jm hx).2 ho) (by assumption))]; exact ax)), mP, ah, aZ, bg, hF⟩
 exact ⟨af, ae, ax, mP, ah, aZ, bg, hF⟩
 rintro e wE2 ⟨hv, hI | hI⟩
 obtain ⟨af, ae, ax, mP, ah, aZ, bg, hF⟩ := hI
 refine ⟨hv, .inl ⟨bg, fun sJ _ dw => ?_⟩⟩
 refine hJ1 _ _ ?_
 replace ae := ae.aA dw fD
 replace ax := dw.ak ax gW
 replace aZ := dw.ak aZ fQ
 replace hF := hF.go1 dw jK
 exact ⟨_, (by rfl), nG, aZ, ax, (by have h5 := ae; rw [show ((Gs.bQ cs).take (Gs.bQ (Gs.sN cs ((Gs.bQ cs).take 0))).length) = Gs.bQ cs from List.take_of_length_le (Nat.le_refl _)] at h5; exact h5), hF⟩
 exact hI.elim
 replace ae := (ae.ai U2).aA U3 dN
 replace hF := (hF.go0 U2).go1 U3 fF
 obtain ⟨D2, g1000000, nG, aZ, ax, ae, hF⟩ := hI
 rw [g1000000]
 refine Z.l ax ?_
 refine leave1 aZ (fun w16 _ bZ => ?_)
 replace ae := ae.aA bZ (Own.lh ae (by assumption))
 replace hF := hF.go1 bZ nG
 exact ⟨_, rfl, rfl, ae, hF⟩
theorem QO {r c cur : Int} {A : Option Addr} {n cp bp B0 : Nat} {cs : List Gs.Cell} {w : World} (af : Z.h w bp #[Z.i r, Z.i c, .slice A n cp, Z.i cur] 91) (ae : Own B0 w 37 5 (.slice A n cp) (rows Gs.cv cs)) (hW : Gs.Pw r c n cs cur) {os : List Gs.iV} {oA : Option Addr} {on oc : Nat} (bC : Rd w oA (rows Gs.oe os)) (hon : on = os.length) (hol : on ≤ 100000) (dK : Gs.kz w os) (how : Gs.BM os) (hln : Gs.EU os) (nar1 : rows Gs.oe os = [] ∨ ∀ k, fO oA k → ¬ aC (.slice A n cp) k) (nar2 : rows Gs.oe os = [] ∨ ∀ k, fO oA k → k ≠ bp) (na1 : os = [] ∨ ∀ k, Gs.jI os k → ¬ aC (.slice A n cp) k) (na2 : os = [] ∨ ∀ k, Gs.jI os k → k ≠ bp) {i : Int} (hi : 0 ≤ i ∧ i < n) :
    oX 150 #[Z.p bp, .slice oA on oc, Z.i i] w fun e w' => ∃ v, e = .returned v ∧ ∃ (at' dn : Int), v = .tuple #[Z.i at', Z.i dn, Z.i (Gs.lF (Gs.wF os) (⟨cs, cur, i, Gs.zc, false⟩ : Gs.Br)).2] ∧ Z.h w' bp #[Z.i r, Z.i c, .slice A n cp, Z.i (Gs.lF (Gs.wF os) (⟨cs, cur, i, Gs.zc, false⟩ : Gs.Br)).1.cur] 91 ∧ Own B0 w' 37 5 (.slice A n cp) (rows Gs.cv (Gs.lF (Gs.wF os) (⟨cs, cur, i, Gs.zc, false⟩ : Gs.Br)).1.cs) ∧ az (fun k => aC (.slice A n cp) k ∨ k = bp) w w' := by
 refine Zo.calls ?_
 unfold Zo
 obtain ⟨hn, hcw, hcu, hp, hN, hb⟩ := id hW; have hrc := hW.rc
 subst hon
 have hos := Gs.Xv os
 have uA := au af
 have jP := Own.lt ae
 have LW := bC.lt
 have aj3 := dK.lt
 have hF : az (fun k => aC (.slice A n cp) k ∨ k = bp) w w := Fr.refl _ _ _
 refine nM (lss _ _ _ _) (by omega) ?_
 refine bP (bP (bP ?_))
 refine aG (eY af ae hn) (fun w1 U1 => ?_)
 refine bP ?_
 refine nM (geq _ _ _ _) (by omega) ?_
 refine bG (aB ?_)
 refine aj (bz (l := [(0, 1), (1, 1), (2, 5), (7, 1)]) (z := #[.pointer none, Z.i 0, Z.u 0, .bool false, .bool false, Z.u 0, Z.u 0, .bool false]) (cs := [Z.p bp, Z.i i, Z.u 0, .bool false, .bool false, Z.u 0, Z.u 0, .bool false]) (by kernel_rfl) (by rfl)) ?_
 refine Z.x (#[Z.p bp, Z.i i, Z.u 0, .bool false, .bool false, Z.u 0, Z.u 0, .bool false]) (fun b3 w3 e3 aS _ U3 => ?_)
 replace af := U1.ag af
 have jO : bp ≠ b3 := by have := au af; omega
 replace ae := ae.ai U1
 have gU := ae.apart e3
 replace bC := bC.ai U1
 have acw := bC.apart e3
 replace dK := dK.ai U1
 have xR := dK.apart e3
 replace hF := hF.go0 U1
 have jk : w.heap.size ≤ b3 := by have := hF.size; omega
 refine bH (fun g w' => ∃ (b : Gs.Br), ((Gs.lF (Gs.wF os) (⟨cs, cur, i, Gs.zc, false⟩ : Gs.Br)) = (b, 0)) ∧ (Z.h w' bp #[Z.i r, Z.i c, .slice A n cp, Z.i b.cur] 91) ∧ (Own B0 w' 37 5 (.slice A n cp) (rows Gs.cv b.cs)) ∧ (Z.h w' b3 #[Z.p bp, Z.i b.at', Z.u b.lk.b, .bool b.lk.ge, .bool b.lk.st, Z.u b.lk.l, Z.u b.lk.c, .bool b.ld] 229) ∧ (Rd w' oA (rows Gs.oe os)) ∧ (Gs.kz w' os) ∧ (az (fun k => aC (.slice A n cp) k ∨ k = bp) w w')) (fun J1 hJ1 => ?_) (fun gJ1 jX hI => ?_)
 refine aj (gm (by kernel_rfl) _ _ _) ?_
 refine dW (fun g w' => ∃ (k : Nat) (b : Gs.Br), (g 27 = Z.i (k : Int)) ∧ (k ≤ os.length) ∧ ((Gs.lF (Gs.wF os) (⟨cs, cur, i, Gs.zc, false⟩ : Gs.Br)) = Gs.lF ((Gs.wF os).drop k) b) ∧ (Gs.Bw r c n b) ∧ (Z.h w' bp #[Z.i r, Z.i c, .slice A n cp, Z.i b.cur] 91) ∧ (Own B0 w' 37 5 (.slice A n cp) (rows Gs.cv b.cs)) ∧ (Z.h w' b3 #[Z.p bp, Z.i b.at', Z.u b.lk.b, .bool b.lk.ge, .bool b.lk.st, Z.u b.lk.l, Z.u b.lk.c, .bool b.ld] 229) ∧ (Rd w' oA (rows Gs.oe os)) ∧ (Gs.kz w' os) ∧ (az (fun k => aC (.slice A n cp) k ∨ k = bp) w w')) (fun g w' => os.length - (RowKit.intOf (g 27)).toNat) ?_ (fun g2 qj hI => ?_)
 replace ae := ae.ai U3
 replace bC := bC.ai U3
 replace dK := dK.ai U3
 replace af := U3.ag af
 replace hF := hF.go0 U3
 exact ⟨0, (⟨cs, cur, i, Gs.zc, false⟩ : Gs.Br), (by rfl), Nat.zero_le _, rfl, ⟨hW, hi, Gs.Am⟩, af, ae, aS, bC, dK, hF⟩
 replace ae := ae.ai U3
 replace bC := bC.ai U3
 replace dK := dK.ai U3
 replace af := U3.ag af
 replace hF := hF.go0 U3
 obtain ⟨k, b, g27, hk, hinv, hBk, af, ae, aS, bC, dK, hF⟩ := hI
 rw [g27]
 refine ay (lss _ _ _ _) (fun h4 => ?_) (fun h4 => ?_)
 refine aH ?_
 refine pK Gs.AQ (by kernel_rfl) (by kernel_rfl) bC (by rfl) (by omega) (by omega) (fun x5 hx5 => ?_)
 simp only [Int.toNat_natCast] at hx5
 refine Z.n ((Gs.oe (Gs.bT 0 0 0 false)).toArray) (fun b6 w6 e6 nY _ U6 => ?_)
 have vG : bp ≠ b6 := by have := au af; omega
 have oV := ae.apart e6
 have Lc : b3 ≠ b6 := by have := au aS; omega
 have acx := bC.apart e6
 have acy := dK.apart e6
 have wY : w.heap.size ≤ b6 := by have := hF.size; omega
 refine Z.t 6 ((Gs.oe x5).toArray) (by (simp [Value.cells, Value.oneCell', Gs.cv, Gs.fv, Gs.ie, Gs.pe, Gs.oe, Gs.bT, Gs.fe, Gs.fC, Gs.ce, Gs.dX, Gs.re]; done)) nY (fun w7 nY _ U7 => ?_)
 refine Z.b 6 ((Gs.oe x5).toArray) nY ?_
 replace ae := (ae.ai U6).aA U7 oV
 replace dK := (dK.ai U6).aA U7 acy
 replace af := U7.ak (U6.ag af) vG
 replace aS := U7.ak (U6.ag aS) Lc
 refine aJ (ahZ (b := b) af ae aS hBk (dK.get hx5) (how.get hx5) (hln.get hx5) (Gs.Ua na1 hx5) (Gs.Ua na2 hx5) (Gs.Ua xR hx5)) (fun v8 w8 D8 => ?_)
 have aK := ae
 replace hF := (hF.go0 U6).go1 U7 wY
 have qF8 := hF.size
 obtain ⟨rfl, af, ae, aS, U8⟩ := D8
 replace bC := (bC.ai U6).aA U7 acx
 replace bC := bC.eH U8 (nar1.elim .inl fun h0 => nar2.elim .inl fun h1 => acw.elim .inl fun h2 => .inr fun k hk hs => by rcases hs with (hs | hs) | hs <;> first | exact h0 k hk hs | exact h1 k hk hs | exact h2 k hk hs)
 replace dK := dK.eH U8 (na1.elim .inl fun h0 => na2.elim .inl fun h1 => xR.elim .inl fun h2 => .inr fun k hk hs => by rcases hs with (hs | hs) | hs <;> first | exact h0 k hk hs | exact h1 k hk hs | exact h2 k hk hs)
 replace hF := hF.go U8 (fun i hi hs => by (rcases hs with (hs | hs) | hs <;> first | exact .inl hs | exact .inr hs | (subst hs; omega)))
 clear aK
 refine ay (kL _ _ _ _ _) (fun h9 => ?_) (fun h9 => ?_)
 refine aH ?_
 refine dm ?_
 refine Z.f 1 ?_
 refine Z.l aS ?_
 rw [Gs.aaq hinv (Gs.Xw hx5) (by assumption)]; exact ⟨_, rfl, _, _, rfl, af, ae, hF⟩
 refine aB ?_
 refine aj (dF _ (by omega)) ?_
 exact ⟨⟨k + 1, (Gs.tK x5.m b).1, (by rfl), by omega, (Gs.VX hinv (Gs.Xw hx5) (Classical.not_not.1 (by assumption))), (hBk.do (how.get hx5).2.1 (how.get hx5).2.2.1), af, ae, aS, bC, dK, hF⟩, cnt_lt (by rfl) rfl (by omega)⟩
 refine aB ?_
 refine hJ1 _ _ ?_
 exact ⟨_, (Gs.aar hinv (by omega)), af, ae, aS, bC, dK, hF⟩
 replace ae := ae.ai U3
 replace bC := bC.ai U3
 replace dK := dK.ai U3
 replace af := U3.ag af
 replace hF := hF.go0 U3
 obtain ⟨b, hfin, af, ae, aS, bC, dK, hF⟩ := hI
 refine dm ?_
 refine Z.f 1 ?_
 refine Z.l aS ?_
 refine aj (gm (by kernel_rfl) _ _ _) ?_
 rw [hfin]; exact ⟨_, rfl, _, _, rfl, af, ae, hF⟩
theorem Ub {r c cur : Int} {A : Option Addr} {n cp bp B0 : Nat} {cs : List Gs.Cell} {w : World} (af : Z.h w bp #[Z.i r, Z.i c, .slice A n cp, Z.i cur] 91) (ae : Own B0 w 37 5 (.slice A n cp) (rows Gs.cv cs)) (hW : Gs.Pw r c n cs cur)  :
    oX 90 #[Z.p bp] w fun e w' => ∃ v, e = .returned v ∧ ∃ q : Int, v = Z.i q ∧ Z.h w' bp #[Z.i r, Z.i c, .slice A n cp, Z.i (Gs.sD (Gs.DN cs))] 91 ∧ Own B0 w' 37 5 (.slice A n cp) (rows Gs.cv (Gs.DN cs)) ∧ az (fun k => aC (.slice A n cp) k ∨ k = bp) w w' := by
 refine WQ.calls ?_
 unfold WQ
 obtain ⟨hn, hcw, hcu, hp, hN, hb⟩ := id hW; have hrc := hW.rc
 have uA := au af
 have jP := Own.lt ae
 have hF : az (fun k => aC (.slice A n cp) k ∨ k = bp) w w := Fr.refl _ _ _
 refine Z.x _ (fun b1 w1 e1 ah _ U1 => ?_)
 have jW : bp ≠ b1 := by have := au af; omega
 have gV := ae.apart e1
 have bU : w.heap.size ≤ b1 := by have := hF.size; omega
 refine bH (fun g w' => ∃ (m : Int), (g 3 = Z.i m) ∧ (Z.h w' bp #[Z.i r, Z.i c, .slice A n cp, Z.i cur] 91) ∧ (Own B0 w' 37 5 (.slice A n cp) (rows Gs.cv (Gs.o5 cs (Gs.eU cs)))) ∧ (Z.h w' b1 #[Z.p bp] 33) ∧ (az (fun k => aC (.slice A n cp) k ∨ k = bp) w w')) (fun J1 hJ1 => ?_) (fun gJ1 jX hI => ?_)
 refine Z.l ah ?_
 replace ae := ae.ai U1
 replace af := U1.ag af
 refine aG (eY af ae hn) (fun w2 U2 => ?_)
 refine dW (fun g w' => ∃ (k : Nat) (m : Int), (g 9 = Z.i (k : Int)) ∧ (k ≤ n) ∧ (g 3 = Z.i m) ∧ (Z.h w' bp #[Z.i r, Z.i c, .slice A n cp, Z.i cur] 91) ∧ (Own B0 w' 37 5 (.slice A n cp) (rows Gs.cv (Gs.o5 cs ((Gs.eU cs).take k)))) ∧ (Z.h w' b1 #[Z.p bp] 33) ∧ (az (fun k => aC (.slice A n cp) k ∨ k = bp) w w')) (fun g w' => n - (RowKit.intOf (g 9)).toNat) ?_ (fun g2 qj hI => ?_)
 replace hF := (hF.go0 U1).go0 U2
 replace ae := ae.ai U2
 replace af := U2.ag af
 replace ah := U2.ag ah
 exact ⟨0, 0, (by rfl), Nat.zero_le _, (by rfl), af, (by rw [List.take_zero]; exact ae), ah, hF⟩
 replace hF := (hF.go0 U1).go0 U2
 replace ae := ae.ai U2
 replace af := U2.ag af
 replace ah := U2.ag ah
 obtain ⟨k, m, g9, hk, g3, af, ae, ah, hF⟩ := hI
 rw [g9]
 rw [g3]
 have hwk := Gs.ET hcw ((Gs.eU cs).take k)
 have hlk := hn.trans hwk.2.symm
 refine ay (lss _ _ _ _) (fun h3 => ?_) (fun h3 => ?_)
 refine aH ?_
 refine bH (fun g w' => ∃ (m : Int), (g 3 = Z.i m) ∧ (Z.h w' bp #[Z.i r, Z.i c, .slice A n cp, Z.i cur] 91) ∧ (Own B0 w' 37 5 (.slice A n cp) (rows Gs.cv (Gs.o5 cs ((Gs.eU cs).take (k + 1))))) ∧ (Z.h w' b1 #[Z.p bp] 33) ∧ (az (fun k => aC (.slice A n cp) k ∨ k = bp) w w')) (fun J3 hJ3 => ?_) (fun gJ3 Ha hI => ?_)
 refine Z.l ah ?_
 refine dS (nN af ae hlk hN hb hwk.1 (i := (k : Int))) (fun w4 U4 h4 => ?_) (fun w4 U4 h4 => ?_)
 refine aH ?_
 replace ah := U4.ag ah
 refine Z.l ah ?_
 refine aj (bz (l := [(0, 1), (1, 1), (2, 1), (3, 1), (4, 1)]) (z := #[Z.u 0, .bool false, .bool false, Z.u 0, Z.u 0]) (cs := (Gs.cv Gs.zc)) (by kernel_rfl) (by rfl)) ?_
 replace ae := ae.ai U4
 replace af := U4.ag af
 refine aJ (jG af ae hlk (i := (k : Int)) (x := Gs.zc)) (fun v5 w5 D5 => ?_)
 obtain ⟨rfl, N5, U5⟩ := D5
 have aK := ae
 replace af := U5.get af (fun h => Own.aP aK af (by decide) _ h rfl)
 replace ae := N5
 replace ah := U5.get ah (fun h => gV _ h rfl)
 replace hF := hF.go0 U4
 replace hF := hF.go U5 (fun i h hs => .inl hs)
 clear aK
 refine aj (FQ _ _ _ _) ?_
 refine hJ3 _ _ ?_
 exact ⟨_, (by rfl), af, (by rw [Gs.Bg (Gs.yz (by omega))]; (rw [if_pos (by assumption)]; exact ae)), ah, hF⟩
 refine aB ?_
 refine hJ3 _ _ ?_
 replace ae := ae.ai U4
 replace af := U4.ag af
 replace ah := U4.ag ah
 replace hF := hF.go0 U4
 exact ⟨_, (by exact g3), af, (by rw [Gs.Bg (Gs.yz (by omega))]; (rw [if_neg (Bool.eq_false_iff.1 (by assumption))]; exact ae)), ah, hF⟩
 obtain ⟨m, g3, af, ae, ah, hF⟩ := hI
 refine aj (dF _ (by omega)) ?_
 exact ⟨⟨k + 1, _, (by rfl), by omega, (by exact g3), af, ae, ah, hF⟩, cnt_lt (by rfl) rfl (by omega)⟩
 refine aB ?_
 refine hJ1 _ _ ?_
 exact ⟨_, (by exact g3), af, (by rw [List.take_of_length_le (by rw [Gs.rV]; omega)] at ae; exact ae), ah, hF⟩
 replace ae := ae.ai U1
 replace af := U1.ag af
 replace hF := hF.go0 U1
 obtain ⟨m, g3, af, ae, ah, hF⟩ := hI
 rw [g3]
 obtain ⟨cw, hcwd⟩ : ∃ x, x = Gs.o5 cs (Gs.eU cs) := ⟨_, rfl⟩
 have hwl := Gs.ET hcw (Gs.eU cs)
 rw [← hcwd] at ae hwl
 have hnw := hn.trans hwl.2.symm
 refine bH (fun g w' => ∃ (D5 : Nat), (g 1000000 = mkV D5 undef) ∧ (w.heap.size ≤ D5) ∧ (w'.heap[D5]? = some (.deferred (some []))) ∧ (Z.h w' bp #[Z.i r, Z.i c, .slice A n cp, Z.i cur] 91) ∧ (Own B0 w' 37 5 (.slice A n cp) (rows Gs.cv (Gs.nZ cw (Gs.bQ cw)))) ∧ (Z.h w' b1 #[Z.p bp] 33) ∧ (az (fun k => aC (.slice A n cp) k ∨ k = bp) w w')) (fun J4 hJ4 => ?_) (fun gJ4 wJ4 hI => ?_)
 refine Z.l ah ?_
 refine aJ (wO af ae hnw) (fun v6 w6 D6 => ?_)
 obtain ⟨b1_23, rfl, g1_23, eG, U6⟩ := D6
 have VL : bp ≠ b1_23 := by have := au af; omega
 have yX : ∀ k, aC _ k → k ≠ b1_23 := fun k hk => by have := (Own.ge ae hk).2; omega
 have VM : b1 ≠ b1_23 := by have := au ah; omega
 have adT : w.heap.size ≤ b1_23 := by have := hF.size; omega
 refine tZ (by kernel_rfl) (fun w7 l5 D5 Rdy5 Bsy5 Dn5 y5 eD el dO ed lp1 lp2 lp3 sz7 U7 hY => ?_)
 have lp2_5 := lp2
 replace af := U6.ag af
 have SB : bp ≠ D5 := by have := au af; omega
 have lK : bp ≠ l5 := by have := au af; omega
 replace ae := ae.ai U6
 have zA : ∀ k, aC _ k → k ≠ D5 := fun k hk => by have := (Own.ge ae hk).2; omega
 have ja : ∀ k, aC _ k → k ≠ l5 := fun k hk => by have := (Own.ge ae hk).2; omega
 replace ah := U6.ag ah
 have Sz : b1 ≠ D5 := by have := au ah; omega
 have mi : b1 ≠ l5 := by have := au ah; omega
 have VN : b1_23 ≠ D5 := by have := au eG; omega
 have oW : b1_23 ≠ l5 := by have := au eG; omega
 replace hF := hF.go0 U6
 have yc : w.heap.size ≤ D5 := by have := hF.size; omega
 have qf : w.heap.size ≤ l5 := by have := hF.size; omega
 have lw : D5 ≠ l5 := by omega
 replace ae := ae.ai U7
 replace af := U7.ag af
 replace ah := U7.ag ah
 replace eG := U7.ag eG
 replace hF := hF.go0 U7
 refine Calls.mono (uq (b1 := b1_23) (csF := fun k => Gs.nZ cw ((Gs.bQ cw).take k)) (J := (fun (k : Nat) (w' : World) => (Z.h w' bp #[Z.i r, Z.i c, .slice A n cp, Z.i cur] 91) ∧ (Own B0 w' 37 5 (.slice A n cp) (rows Gs.cv (Gs.nZ cw ((Gs.bQ cw).take k)))) ∧ (Z.h w' b1_23 #[Z.p bp] 33) ∧ (Z.h w' b1 #[Z.p bp] 33) ∧ (w'.heap[D5]? = some (.deferred (some []))) ∧ (w'.heap[l5]? = some Rdy5) ∧ (az (fun k => aC (.slice A n cp) k ∨ k = bp) w w'))) (X := (fun _ => False)) (fun _ w' hJ => by obtain ⟨af, ae, eG, ah, dO, ed, hF⟩ := hJ; exact ⟨eG, af, ae⟩) (fun _ w' w'' hJ U' => by obtain ⟨af, ae, eG, ah, dO, ed, hF⟩ := hJ; exact ⟨U'.ag af, ae.ai U', U'.ag eG, U'.ag ah, U'.ag dO, U'.ag ed, hF.go0 U'⟩) (fun _ _ h _ => h.elim) (fun _ => hnw.trans (Gs.uG cw _)) (fun _ => Gs.AU hwl.1 _) (fun _ _ => by rw [Gs.Md, Gs.Md]) hN hb ?_ ?_) ?_
 intro k wl5 xk hx hI
 obtain ⟨af, ae, eG, ah, dO, ed, hF⟩ := hI
 have hx : (Gs.bQ cw)[k]? = some xk := hx
 have hk := (List.getElem?_eq_some_iff.1 hx).1
 have hxm := Gs.rf.1 (List.mem_of_getElem? hx)
 have hxn := hxm.1
 have hgw := Gs.qY (Gs.AU hwl.1 ((Gs.bQ cw).take k)) (xk : Int)
 have hol := Gs.uG cw ((Gs.bQ cw).take k)
 refine hY [.agg (Gs.fv (Gs.je (Gs.nZ cw ((Gs.bQ cw).take k)) xk)).toArray] _ _ rfl ed ?_
 simp only [List.getD_cons_zero, List.getD_cons_succ]
 refine Z.n ((Gs.fv Gs.zf).toArray) (fun b8 w8 e8 dG _ U8 => ?_)
 have pO : bp ≠ b8 := by have := au af; omega
 have l7 := ae.apart e8
 have wP : b1_23 ≠ b8 := by have := au eG; omega
 have BU : b1 ≠ b8 := by have := au ah; omega
 have BV : D5 ≠ b8 := by have := au dO; omega
 have BX : l5 ≠ b8 := by have := au ed; omega
 have rq : w.heap.size ≤ b8 := by have := hF.size; omega
 refine Z.t 3 ((Gs.fv (Gs.je (Gs.nZ cw ((Gs.bQ cw).take k)) xk)).toArray) (by (simp [Value.cells, Value.oneCell', Gs.cv, Gs.fv, Gs.ie, Gs.pe, Gs.oe, Gs.bT, Gs.fe, Gs.fC, Gs.ce, Gs.dX, Gs.re]; done)) dG (fun w9 dG _ U9 => ?_)
 replace ed := U9.ak (U8.ag ed) BX
 refine wM ed (fun w10 ed _ aT => ?_)
 refine Z.f 2 ?_
 replace dG := aT.ak dG (Ne.symm BX)
 refine Z.l dG ?_
 refine dS (mW (Gs.SN (Gs.AU hwl.1 _) xk)) (fun oz bK h11 => ?_) (fun oz bK h11 => ?_)
 simp only [Z.d, Z.c] at h11
 refine aH ?_
 replace ed := bK.ag ed
 refine rP ed (fun w12 ed _ cZ => ?_)
 replace ae := ((((ae.ai U8).aA U9 l7).aA aT ja).ai bK).aA cZ ja
 replace af := cZ.ak (bK.ag (aT.ak (U9.ak (U8.ag af) pO) lK)) lK
 replace eG := cZ.ak (bK.ag (aT.ak (U9.ak (U8.ag eG) wP) oW)) oW
 replace ah := cZ.ak (bK.ag (aT.ak (U9.ak (U8.ag ah) BU) mi)) mi
 replace dO := cZ.ak (bK.ag (aT.ak (U9.ak (U8.ag dO) BV) lw)) lw
 replace hF := ((((hF.go0 U8).go1 U9 rq).go1 aT qf).go0 bK).go1 cZ qf
 exact ⟨af, (by rw [Gs.FT hx]; have hpr := Gs.FU hx; unfold Gs.qL; (rw [if_pos (decide_eq_true (by omega))]; exact ae)), eG, ah, dO, ed, hF⟩
 simp only [Z.d, Z.c] at h11
 refine aB ?_
 replace ah := bK.ag (aT.ak (U9.ak (U8.ag ah) BU) mi)
 refine Z.l ah ?_
 refine Z.f 0 ?_
 replace dG := bK.ag dG
 refine Z.l dG ?_
 replace ae := (((ae.ai U8).aA U9 l7).aA aT ja).ai bK
 replace af := bK.ag (aT.ak (U9.ak (U8.ag af) pO) lK)
 refine aG (iI af ae (hnw.trans hol) (i := (xk : Int))) (fun uM dI => ?_)
 refine Z.n ((Gs.cv Gs.zc).toArray) (fun b14 sJ e14 dR _ dw => ?_)
 replace af := dI.ag af
 have qm : bp ≠ b14 := by have := au af; omega
 replace ae := ae.ai dI
 have nO := ae.apart e14
 replace eG := dI.ag (bK.ag (aT.ak (U9.ak (U8.ag eG) wP) oW))
 have vJ : b1_23 ≠ b14 := by have := au eG; omega
 replace ah := dI.ag ah
 have qo : b1 ≠ b14 := by have := au ah; omega
 replace dO := dI.ag (bK.ag (aT.ak (U9.ak (U8.ag dO) BV) lw))
 have zV : D5 ≠ b14 := by have := au dO; omega
 replace ed := dI.ag (bK.ag ed)
 have zW : l5 ≠ b14 := by have := au ed; omega
 replace dG := dI.ag dG
 have zX : b8 ≠ b14 := by have := au dG; omega
 replace hF := ((((hF.go0 U8).go1 U9 rq).go1 aT qf).go0 bK).go0 dI
 have pg : w.heap.size ≤ b14 := by have := hF.size; omega
 refine Z.t 5 ((Gs.cv (Gs.bJ (Gs.nZ cw ((Gs.bQ cw).take k)) xk)).toArray) (by (simp [Value.cells, Value.oneCell', Gs.cv, Gs.fv, Gs.ie, Gs.pe, Gs.oe, Gs.bT, Gs.fe, Gs.fC, Gs.ce, Gs.dX, Gs.re]; done)) dR (fun uN dR _ dH => ?_)
 refine Z.f 0 ?_
 refine Z.l dR ?_
 refine aG (yh hgw) (fun w16 bZ => ?_)
 refine Z.f 0 ?_
 replace dR := bZ.ag dR
 refine Z.s dR (fun uo dR _ bY => ?_)
 replace ah := bY.ak (bZ.ag (dH.ak (dw.ag ah) qo)) qo
 refine Z.l ah ?_
 refine Z.f 0 ?_
 replace dG := bY.ak (bZ.ag (dH.ak (dw.ag dG) zX)) zX
 refine Z.l dG ?_
 refine Z.b 5 _ dR ?_
 replace ae := (((ae.ai dw).aA dH nO).ai bZ).aA bY nO
 replace af := bY.ak (bZ.ag (dH.ak (dw.ag af) qm)) qm
 refine aJ (jG af ae (hnw.trans hol) (i := (xk : Int)) (x := Gs.Ec false (Gs.bJ (Gs.nZ cw ((Gs.bQ cw).take k)) xk))) (fun v18 uY D18 => ?_)
 obtain ⟨rfl, N18, dE⟩ := D18
 have aK := ae
 replace af := dE.get af (fun h => Own.aP aK af (by decide) _ h rfl)
 replace ae := N18
 replace eG := bY.ak (bZ.ag (dH.ak (dw.ag eG) vJ)) vJ
 replace eG := dE.get eG (fun h => yX _ h rfl)
 replace ah := dE.get ah (fun h => gV _ h rfl)
 replace dO := bY.ak (bZ.ag (dH.ak (dw.ag dO) zV)) zV
 replace dO := dE.get dO (fun h => zA _ h rfl)
 replace ed := bY.ak (bZ.ag (dH.ak (dw.ag ed) zW)) zW
 replace ed := dE.get ed (fun h => ja _ h rfl)
 replace hF := (((hF.go0 dw).go1 dH pg).go0 bZ).go1 bY pg
 replace hF := hF.go dE (fun i h hs => .inl hs)
 clear aK
 refine rP ed (fun yK ed _ eu => ?_)
 replace ae := ae.aA eu ja
 replace af := eu.ak af lK
 replace eG := eu.ak eG oW
 replace ah := eu.ak ah mi
 replace dO := eu.ak dO lw
 replace hF := hF.go1 eu qf
 exact ⟨af, (by rw [Gs.FT hx]; have hpr := Gs.FU hx; unfold Gs.qL; (rw [if_neg (fun hq => by have := of_decide_eq_true hq; omega)]; exact ae)), eG, ah, dO, ed, hF⟩
 exact ⟨af, ae, eG, ah, dO, ed, hF⟩
 rintro e wE5 ⟨hv, hI | hI⟩
 obtain ⟨af, ae, eG, ah, dO, ed, hF⟩ := hI
 refine ⟨hv, .inl ⟨ed, fun wE _ dJ => ?_⟩⟩
 refine hJ4 _ _ ?_
 replace ae := ae.aA dJ ja
 replace af := dJ.ak af lK
 replace ah := dJ.ak ah mi
 replace dO := dJ.ak dO lw
 replace hF := hF.go1 dJ qf
 exact ⟨_, (by rfl), yc, dO, af, (by rw [show Gs.bQ (Gs.nZ cw (List.take 0 (Gs.bQ cw))) = Gs.bQ cw from rfl, List.take_of_length_le (Nat.le_refl _)] at ae; exact ae), ah, hF⟩
 exact hI.elim
 obtain ⟨D5, g1000000, yc, dO, af, ae, ah, hF⟩ := hI
 rw [g1000000]
 refine dQ (S := no) (fun BD dL => ?_)
 replace ah := dL.ag ah
 refine Z.m ah ?_
 refine Z.m ah ?_
 replace ae := ae.ai dL
 replace af := dL.ag af
 refine fU (fun w' hw' => by have af := hw'.ag af; have ae := ae.ai hw'; exact BN af ae (hnw.trans (Gs.uG cw _)) hN hb (Gs.AU hwl.1 _)) ?_
 have hhb := Gs.Ji (cs := (Gs.nZ cw (Gs.bQ cw))) (by have := Gs.uG cw (Gs.bQ cw); omega)
 have hol := Gs.uG cw (Gs.bQ cw)
 refine aF (fun AB eF => ?_)
 replace ae := ae.ai eF
 replace af := eF.ag af
 refine aJ (qR af ae (hnw.trans (Gs.uG cw _)) (i := Gs.sD (Gs.nZ cw (Gs.bQ cw)))) (fun v24 Po D24 => ?_)
 obtain ⟨rfl, N24, jm⟩ := D24
 replace dO := eF.ag (dL.ag dO)
 replace hF := (hF.go0 dL).go0 eF
 replace ae := ae.aA jm (Own.aP ae (by assumption) (by decide))
 replace dO := jm.ak dO (by omega)
 replace af := N24
 replace hF := hF.go jm (fun i _ h => .inr h)
 rw [if_pos (by omega)] at af
 refine aF (fun Hy iD => ?_)
 replace dO := iD.ag dO
 refine leave1 dO (fun Ic _ ig => ?_)
 replace ae := ae.ai iD
 replace af := iD.ag af
 replace hF := hF.go0 iD
 replace ae := ae.aA ig (Own.lh ae (by assumption))
 replace af := ig.ak af (by omega)
 subst hcwd
 replace hF := hF.go1 ig yc
 exact ⟨_, rfl, _, rfl, af, ae, hF⟩
theorem Ar {s : Gs.jb} {pv : Option Addr} {bs : Nat} {w : World} (aI : Z.h w bs #[Z.i s.r0, Z.i s.c0, Z.i s.r1, Z.i s.c1, Z.i s.wh, .pointer pv] 89) (hz0 : Gs.aU s.r0 s.c0 ≠ 0) (hz1 : Gs.aU s.r1 s.c1 ≠ 0) :
    oX 82 #[Z.p bs, Z.i 0] w fun e w' => ∃ v, e = .returned v ∧ ∃ bp g, Z.h w' bs #[Z.i (Gs.bM s 0).r0, Z.i (Gs.bM s 0).c0, Z.i (Gs.bM s 0).r1, Z.i (Gs.bM s 0).c1, Z.i (Gs.bM s 0).wh, Z.p bp] 89 ∧ w.heap.size ≤ bp ∧ Z.h w' bp #[Z.i (Gs.bM s 0).r, Z.i (Gs.bM s 0).c, .slice (some ⟨g, 0, none⟩) (Gs.bM s 0).cs.length (Gs.bM s 0).cs.length, Z.i (Gs.bM s 0).cur] 91 ∧ Own w.heap.size w' 37 5 (.slice (some ⟨g, 0, none⟩) (Gs.bM s 0).cs.length (Gs.bM s 0).cs.length) (rows Gs.cv (Gs.bM s 0).cs) ∧ az (· = bs) w w' := by
 refine PK.calls ?_
 unfold PK
 have hF : az (· = bs) w w := Fr.refl _ _ _
 refine dm ?_
 refine Z.f 4 ?_
 refine Z.s aI (fun w1 aI _ U1 => ?_)
 replace hF := hF.go U1 (fun i _ h => h)
 refine dm ?_
 refine Z.f 0 ?_
 refine aj (Gl (n := 2) (m := 2) (by kernel_rfl) (by decide) (by decide)) ?_
 refine Z.b 2 _ aI ?_
 refine aJ (yC (r := s.r0) (c := s.c0) hz0) (fun v3 w3 D3 => ?_)
 obtain ⟨bp, g, rfl, gbp, af, ae, U3⟩ := D3
 rw [← Gs.CG s.r0 s.c0] at af ae
 rw [show List.replicate (Gs.Gm s.r0 s.c0).length Gs.zc = Gs.Gm s.r0 s.c0 by rw [Gs.CG]; rfl] at ae
 have ui : bs ≠ bp := by have := au aI; omega
 have rD : w.heap.size ≤ bp := by have := hF.size; omega
 replace ae := ae.mono (B' := w.heap.size) hF.size
 refine Z.e ?_
 refine Z.e ?_
 refine dm ?_
 refine Z.f 5 ?_
 replace aI := U3.ag aI
 refine Z.s aI (fun w4 aI _ U4 => ?_)
 replace ae := ae.aA U4 (Own.aP ae (by assumption) (by decide))
 replace hF := hF.go0 U3
 replace hF := hF.go U4 (fun i _ h => h)
 replace af := U4.ak af (Ne.symm ui)
 exact ⟨_, rfl, bp, g, aI, rD, af, ae, hF⟩
theorem Hl {s : Gs.jb} {pv : Option Addr} {bs : Nat} {w : World} (aI : Z.h w bs #[Z.i s.r0, Z.i s.c0, Z.i s.r1, Z.i s.c1, Z.i s.wh, .pointer pv] 89) (hz0 : Gs.aU s.r0 s.c0 ≠ 0) (hz1 : Gs.aU s.r1 s.c1 ≠ 0) :
    oX 82 #[Z.p bs, Z.i 1] w fun e w' => ∃ v, e = .returned v ∧ ∃ bp g, Z.h w' bs #[Z.i (Gs.bM s 1).r0, Z.i (Gs.bM s 1).c0, Z.i (Gs.bM s 1).r1, Z.i (Gs.bM s 1).c1, Z.i (Gs.bM s 1).wh, Z.p bp] 89 ∧ w.heap.size ≤ bp ∧ Z.h w' bp #[Z.i (Gs.bM s 1).r, Z.i (Gs.bM s 1).c, .slice (some ⟨g, 0, none⟩) (Gs.bM s 1).cs.length (Gs.bM s 1).cs.length, Z.i (Gs.bM s 1).cur] 91 ∧ Own w.heap.size w' 37 5 (.slice (some ⟨g, 0, none⟩) (Gs.bM s 1).cs.length (Gs.bM s 1).cs.length) (rows Gs.cv (Gs.bM s 1).cs) ∧ az (· = bs) w w' := by
 refine PK.calls ?_
 unfold PK
 have hF : az (· = bs) w w := Fr.refl _ _ _
 refine dm ?_
 refine Z.f 4 ?_
 refine Z.s aI (fun w1 aI _ U1 => ?_)
 replace hF := hF.go U1 (fun i _ h => h)
 refine dm ?_
 refine Z.f 0 ?_
 refine aj (Gl (n := 2) (m := 2) (by kernel_rfl) (by decide) (by decide)) ?_
 refine Z.b 2 (#[Z.i s.r1, Z.i s.c1]) aI ?_
 refine aJ (yC (r := s.r1) (c := s.c1) hz1) (fun v3 w3 D3 => ?_)
 obtain ⟨bp, g, rfl, gbp, af, ae, U3⟩ := D3
 rw [← Gs.CG s.r1 s.c1] at af ae
 rw [show List.replicate (Gs.Gm s.r1 s.c1).length Gs.zc = Gs.Gm s.r1 s.c1 by rw [Gs.CG]; rfl] at ae
 have ui : bs ≠ bp := by have := au aI; omega
 have rD : w.heap.size ≤ bp := by have := hF.size; omega
 replace ae := ae.mono (B' := w.heap.size) hF.size
 refine Z.e ?_
 refine Z.e ?_
 refine dm ?_
 refine Z.f 5 ?_
 replace aI := U3.ag aI
 refine Z.s aI (fun w4 aI _ U4 => ?_)
 replace ae := ae.aA U4 (Own.aP ae (by assumption) (by decide))
 replace hF := hF.go0 U3
 replace hF := hF.go U4 (fun i _ h => h)
 replace af := U4.ak af (Ne.symm ui)
 exact ⟨_, rfl, bp, g, aI, rD, af, ae, hF⟩
theorem Uc {s : Gs.jb} {pv : Option Addr} {bs : Nat} {w : World} (aI : Z.h w bs #[Z.i s.r0, Z.i s.c0, Z.i s.r1, Z.i s.c1, Z.i s.wh, .pointer pv] 89) (hz0 : Gs.aU s.r0 s.c0 ≠ 0) (hz1 : Gs.aU s.r1 s.c1 ≠ 0) {j : Int} (hj : j = 0 ∨ j = 1) :
    oX 82 #[Z.p bs, Z.i j] w (fun e w' => ∃ v, e = .returned v ∧ ∃ bp g, Z.h w' bs #[Z.i (Gs.bM s j).r0, Z.i (Gs.bM s j).c0, Z.i (Gs.bM s j).r1, Z.i (Gs.bM s j).c1, Z.i (Gs.bM s j).wh, Z.p bp] 89 ∧ w.heap.size ≤ bp ∧ Z.h w' bp #[Z.i (Gs.bM s j).r, Z.i (Gs.bM s j).c, .slice (some ⟨g, 0, none⟩) (Gs.bM s j).cs.length (Gs.bM s j).cs.length, Z.i (Gs.bM s j).cur] 91 ∧ Own w.heap.size w' 37 5 (.slice (some ⟨g, 0, none⟩) (Gs.bM s j).cs.length (Gs.bM s j).cs.length) (rows Gs.cv (Gs.bM s j).cs) ∧ az (· = bs) w w') := by
 rcases hj with rfl | rfl
 exact Ar aI hz0 hz1
 exact Hl aI hz0 hz1
abbrev Xx (s' : Gs.jb) (res : Gs.vT) (A : Option Addr) (n cp bp bs B0 : Nat) (w : World) : Ending → World → Prop := fun e w' => ∃ v, e = .returned v ∧ v = .agg (Gs.re res).toArray ∧ ∃ (bp' : Nat) (A' : Option Addr) (n' cp' : Nat), Z.h w' bs #[Z.i s'.r0, Z.i s'.c0, Z.i s'.r1, Z.i s'.c1, Z.i s'.wh, Z.p bp'] 89 ∧ Z.h w' bp' #[Z.i s'.r, Z.i s'.c, .slice A' n' cp', Z.i s'.cur] 91 ∧ Own B0 w' 37 5 (.slice A' n' cp') (rows Gs.cv s'.cs) ∧ n' = s'.cs.length ∧ (bp' = bp ∨ w.heap.size ≤ bp') ∧ (∀ k, aC (.slice A' n' cp') k → aC (.slice A n cp) k ∨ w.heap.size ≤ k) ∧ az (fun k => (aC (.slice A n cp) k ∨ k = bp) ∨ k = bs) w w'
set_option maxHeartbeats 1000000 in
theorem Eh {s : Gs.jb} {A : Option Addr} {n cp bp bs B0 : Nat} {w : World} (aI : Z.h w bs #[Z.i s.r0, Z.i s.c0, Z.i s.r1, Z.i s.c1, Z.i s.wh, Z.p bp] 89) (af : Z.h w bp #[Z.i s.r, Z.i s.c, .slice A n cp, Z.i s.cur] 91) (ae : Own B0 w 37 5 (.slice A n cp) (rows Gs.cv s.cs)) (hS : Gs.Sw n s) {x : Gs.o8} {fA : Option Addr} {fn fc : Nat} (gZ : Gs.iw w [⟨0, 0, x⟩]) (hwx : Gs.AA x) (hlx : Gs.EU x.os ∧ x.os.length ≤ 100000) (nax1 : [(⟨0, 0, x⟩ : Gs.Fd)] = [] ∨ ∀ k, Gs.kZ [⟨0, 0, x⟩] k → ¬ aC (.slice A n cp) k) (nax2 : [(⟨0, 0, x⟩ : Gs.Fd)] = [] ∨ ∀ k, Gs.kZ [⟨0, 0, x⟩] k → k ≠ bp) (nax3 : [(⟨0, 0, x⟩ : Gs.Fd)] = [] ∨ ∀ k, Gs.kZ [⟨0, 0, x⟩] k → k ≠ bs) {i : Int} (hi : 0 ≤ i ∧ i < n) :
    oX 108 #[Z.p bs, .agg (Gs.ce x fA fn fc).toArray, Z.i i] w fun e w' => ∃ v, e = .returned v ∧ v = .agg (Gs.re (Gs.rE s x.m i).2).toArray ∧ Z.h w' bp #[Z.i (Gs.rE s x.m i).1.r, Z.i (Gs.rE s x.m i).1.c, .slice A n cp, Z.i (Gs.rE s x.m i).1.cur] 91 ∧ Own B0 w' 37 5 (.slice A n cp) (rows Gs.cv (Gs.rE s x.m i).1.cs) ∧ az (fun k => aC (.slice A n cp) k ∨ k = bp) w w' := by
 refine Zl.calls ?_
 unfold Zl
 have hW := hS.2
 obtain ⟨hn, hcw, hcu, hp, hN, hb⟩ := id hW
 have hF : az (fun k => aC (.slice A n cp) k ∨ k = bp) w w := Fr.refl _ _ _
 refine Z.x ((Gs.ce x fA fn fc).toArray) (fun b1 w1 e1 ah _ U1 => ?_)
 have jW : bp ≠ b1 := by have := au af; omega
 refine Z.n ((Gs.re Gs.qp).toArray) (fun b2 w2 e2 ax _ U2 => ?_)
 replace af := U1.ag af
 have fH : bp ≠ b2 := by have := au af; omega
 replace ae := ae.ai U1
 have dN := ae.apart e2
 replace hF := hF.go0 U1
 have fF : w.heap.size ≤ b2 := by have := hF.size; omega
 refine dQ (S := (fun k => aC (.slice A n cp) k ∨ k = bp)) (fun w3 U3 => ?_)
 refine gK ?_
 refine Z.g 5 ?_
 replace aI := U3.ag (U2.ag (U1.ag aI))
 refine bi (fun w' hw' => by have aI := (Fr.jA hw').ag aI; exact (kK (by kernel_rfl) aI (by rfl))) ?_
 refine Z.g 2 ?_
 replace ah := U3.ag (U2.ag ah)
 refine bi (fun w' hw' => by have ah := (Fr.jA hw').ag ah; exact (kK (by kernel_rfl) ah (by rfl))) ?_
 refine aF (fun w4 U4 => ?_)
 refine jC ?_
 replace gZ := (((gZ.ai U1).ai U2).ai U3).ai U4
 replace ae := ((ae.ai U2).ai U3).ai U4
 replace af := U4.ag (U3.ag (U2.ag af))
 refine aJ (QO af ae hW gZ.c.1 rfl hlx.2 gZ.c.2 hwx.2.2 hlx.1 (Gs.aka nax1) (Gs.aka nax2) (Gs.akb nax1) (Gs.akb nax2) hi) (fun v5 w5 D5 => ?_)
 have aK := ae
 replace hF := ((hF.go0 U2).go0 U3).go0 U4
 have qF5 := hF.size
 obtain ⟨at18, dn18, rfl, af, ae, U5⟩ := D5
 replace aI := U4.ag aI
 replace aI := U5.get aI (fun hs => by rcases hs with hs | hs <;> first | (first | exact Own.aP aK aI (by decide) _ hs rfl | (have := Own.ge aK hs; omega)) | (exact absurd hs (by exact fE (by assumption) (by assumption) (by decide))))
 replace gZ := gZ.eH U5 (nax1.elim .inl fun h0 => nax2.elim .inl fun h1 => .inr fun k hk hs => by rcases hs with hs | hs <;> first | exact h0 k hk hs | exact h1 k hk hs)
 replace ah := U4.ag ah
 replace ah := U5.get ah (fun hs => by rcases hs with hs | hs <;> first | (first | exact Own.aP aK ah (by decide) _ hs rfl | (have := Own.ge aK hs; omega)) | (exact absurd hs (Ne.symm jW)))
 replace ax := U4.ag (U3.ag ax)
 replace ax := U5.get ax (fun hs => by rcases hs with hs | hs <;> first | (first | exact Own.aP aK ax (by decide) _ hs rfl | (have := Own.ge aK hs; omega)) | (exact absurd hs (Ne.symm fH)))
 replace hF := hF.go U5 (fun i hi hs => by exact hs)
 clear aK
 refine ⟨U5, ?_⟩
 refine bi (fun w' hw' => (DD (by rfl))) ?_
 refine bi (fun w' hw' => (DD (by rfl))) ?_
 refine bi (fun w' hw' => (DD (by rfl))) ?_
 refine aF (fun w6 U6 => ?_)
 refine bH (fun g w' => (g 9 = Z.i (if (Gs.lF x.m.os (Gs.II s i)).2 = 0 then x.e else (Gs.lF x.m.os (Gs.II s i)).2)) ∧ (Z.h w' bs #[Z.i s.r0, Z.i s.c0, Z.i s.r1, Z.i s.c1, Z.i s.wh, Z.p bp] 89) ∧ (Z.h w' bp #[Z.i (Gs.rE s x.m i).1.r, Z.i (Gs.rE s x.m i).1.c, .slice A n cp, Z.i (Gs.rE s x.m i).1.cur] 91) ∧ (Own B0 w' 37 5 (.slice A n cp) (rows Gs.cv (Gs.rE s x.m i).1.cs)) ∧ (Gs.iw w' [⟨0, 0, x⟩]) ∧ (Z.h w' b1 ((Gs.ce x fA fn fc).toArray) 124) ∧ (Z.h w' b2 ((Gs.re Gs.qp).toArray) 66) ∧ (az (fun k => aC (.slice A n cp) k ∨ k = bp) w w')) (fun J1 hJ1 => ?_) (fun gJ1 jX hI => ?_)
 refine ay (dC _ _ _ _ _) (fun h7 => ?_) (fun h7 => ?_)
 refine aH ?_
 refine Z.f 3 ?_
 replace ah := U6.ag ah
 refine Z.l ah ?_
 refine hJ1 _ _ ?_
 replace gZ := gZ.ai U6
 replace ae := ae.ai U6
 replace aI := U6.ag aI
 replace ax := U6.ag ax
 replace af := U6.ag af
 replace hF := hF.go0 U6
 exact ⟨(congrArg (Value.int .i64) (by exact (if_pos (by assumption)).symm)), aI, af, ae, gZ, ah, ax, hF⟩
 refine aB ?_
 refine hJ1 _ _ ?_
 replace gZ := gZ.ai U6
 replace ae := ae.ai U6
 replace aI := U6.ag aI
 replace ah := U6.ag ah
 replace ax := U6.ag ax
 replace af := U6.ag af
 replace hF := hF.go0 U6
 exact ⟨(congrArg (Value.int .i64) (by exact (if_neg (by assumption)).symm)), aI, af, ae, gZ, ah, ax, hF⟩
 replace gZ := gZ.ai U6
 replace ae := ae.ai U6
 replace aI := U6.ag aI
 replace ah := U6.ag ah
 replace ax := U6.ag ax
 replace af := U6.ag af
 replace hF := hF.go0 U6
 obtain ⟨g9, aI, af, ae, gZ, ah, ax, hF⟩ := hI
 rw [g9]
 refine ay (kL _ _ _ _ _) (fun h8 => ?_) (fun h8 => ?_)
 refine aH ?_
 refine aj (bz (l := [(0, 1), (1, 1), (2, 1), (3, 1)]) (z := #[Z.u 0, .bool false, .bool false, Z.i 0]) (cs := Gs.re (Gs.wV (if (Gs.lF x.m.os (Gs.II s i)).2 = 0 then x.e else (Gs.lF x.m.os (Gs.II s i)).2))) (by kernel_rfl) (by rfl)) ?_
 refine Z.t 4 ((Gs.re (Gs.wV (if (Gs.lF x.m.os (Gs.II s i)).2 = 0 then x.e else (Gs.lF x.m.os (Gs.II s i)).2))).toArray) (by (simp [Value.cells, Value.oneCell', Gs.cv, Gs.fv, Gs.ie, Gs.pe, Gs.oe, Gs.bT, Gs.fe, Gs.fC, Gs.ce, Gs.dX, Gs.re]; done)) ax (fun w10 ax _ aT => ?_)
 refine Z.a 4 ax ?_
 replace ae := ae.aA aT dN
 replace af := aT.ak af fH
 replace hF := hF.go1 aT fF
 exact ⟨_, rfl, (congrArg (fun q => Value.agg (Gs.re q).toArray) (Gs.akc (c := x.m) (by assumption)).symm), af, ae, hF⟩
 refine aB ?_
 refine dQ (S := no) (fun w12 cZ => ?_)
 refine Z.g 1 ?_
 replace ah := cZ.ag ah
 refine Z.m ah ?_
 refine fU (fun w' hw' => QF hwx.2.1) ?_
 refine Z.g 1 ?_
 refine Z.m ah ?_
 refine fU (fun w' hw' => Vu hwx.2.1) ?_
 refine bi (fun w' hw' => (bz (l := [(0, 1), (1, 1), (2, 1), (3, 1)]) (z := #[Z.u 0, .bool false, .bool false, Z.i 0]) (cs := Gs.re ⟨0, decide (x.w / 2 % 2 = 1), decide (x.w / 4 % 2 = 1), 0⟩) (by kernel_rfl) (by rfl))) ?_
 refine aF (fun w16 bZ => ?_)
 replace ax := bZ.ag (cZ.ag ax)
 refine Z.t 4 ((Gs.re ⟨0, decide (x.w / 2 % 2 = 1), decide (x.w / 4 % 2 = 1), 0⟩).toArray) (by (simp [Value.cells, Value.oneCell', Gs.cv, Gs.fv, Gs.ie, Gs.pe, Gs.oe, Gs.bT, Gs.fe, Gs.fC, Gs.ce, Gs.dX, Gs.re]; done)) ax (fun uo ax _ bY => ?_)
 refine aF (fun uY dE => ?_)
 replace ax := dE.ag ax
 refine Z.a 4 ax ?_
 replace ae := (((ae.ai cZ).ai bZ).aA bY dN).ai dE
 replace af := dE.ag (bY.ak (bZ.ag (cZ.ag af)) fH)
 replace hF := (((hF.go0 cZ).go0 bZ).go1 bY fF).go0 dE
 exact ⟨_, rfl, (congrArg (fun q => Value.agg (Gs.re q).toArray) (Gs.akd (c := x.m) (Classical.not_not.1 (by assumption))).symm), af, ae, hF⟩
theorem Ud {n0 : Nat} {s : Gs.jb} {pv : Option Addr} {bs : Nat} {w : World} (aI : Z.h w bs #[Z.i s.r0, Z.i s.c0, Z.i s.r1, Z.i s.c1, Z.i s.wh, .pointer pv] 89) (hS : Gs.Sw n0 s) {x : Gs.o8} {fA : Option Addr} {fn fc : Nat} (gZ : Gs.iw w [⟨0, 0, x⟩]) (hwx : Gs.AA x) (hlx : Gs.EU x.os ∧ x.os.length ≤ 100000) (nax3 : [(⟨0, 0, x⟩ : Gs.Fd)] = [] ∨ ∀ k, Gs.kZ [⟨0, 0, x⟩] k → k ≠ bs) :
    oX 109 #[Z.p bs, .agg (Gs.ce x fA fn fc).toArray, Z.i 0] w fun e w' => ∃ v, e = .returned v ∧ v = .agg (Gs.re (Gs.iW s x.m 0).2).toArray ∧ ∃ bp g, Z.h w' bs #[Z.i (Gs.iW s x.m 0).1.r0, Z.i (Gs.iW s x.m 0).1.c0, Z.i (Gs.iW s x.m 0).1.r1, Z.i (Gs.iW s x.m 0).1.c1, Z.i (Gs.iW s x.m 0).1.wh, Z.p bp] 89 ∧ w.heap.size ≤ bp ∧ Z.h w' bp #[Z.i (Gs.iW s x.m 0).1.r, Z.i (Gs.iW s x.m 0).1.c, .slice (some ⟨g, 0, none⟩) (Gs.iW s x.m 0).1.cs.length (Gs.iW s x.m 0).1.cs.length, Z.i (Gs.iW s x.m 0).1.cur] 91 ∧ Own w.heap.size w' 37 5 (.slice (some ⟨g, 0, none⟩) (Gs.iW s x.m 0).1.cs.length (Gs.iW s x.m 0).1.cs.length) (rows Gs.cv (Gs.iW s x.m 0).1.cs) ∧ az (· = bs) w w' := by
 refine Ou.calls ?_
 unfold Ou
 have ah0 := au aI
 have ake := gZ.lt
 have hF : az (· = bs) w w := Fr.refl _ _ _
 refine Z.x ((Gs.ce x fA fn fc).toArray) (fun b1 w1 e1 ah _ U1 => ?_)
 have xB : bs ≠ b1 := by have := au aI; omega
 have acz := gZ.apart e1
 have bU : w.heap.size ≤ b1 := by have := hF.size; omega
 refine Z.n ((Gs.re Gs.qp).toArray) (fun b2 w2 e2 ax _ U2 => ?_)
 replace aI := U1.ag aI
 have jg : bs ≠ b2 := by have := au aI; omega
 replace gZ := gZ.ai U1
 have acA := gZ.apart e2
 have lJ : b1 ≠ b2 := by have := au ah; omega
 replace hF := hF.go0 U1
 have fF : w.heap.size ≤ b2 := by have := hF.size; omega
 replace aI := U2.ag aI
 refine aJ (Ar aI hS.1.1 hS.1.2) (fun v3 w3 D3 => ?_)
 obtain ⟨bp, g, N3, gbp, af, ae, U3⟩ := D3
 have hS1 := hS.renew 0
 have hp1 := hS1.2.2.2.2.1
 have hc1 : (Gs.bM s 0).cur = 0 := by unfold Gs.bM; split <;> rfl
 have ui : bs ≠ bp := by have := au aI; omega
 replace gZ := gZ.ai U2
 have acB := (gZ.lt).ne (b := bp) (by omega)
 replace ah := U2.ag ah
 have aev : b1 ≠ bp := by have := au ah; omega
 have CJ : b2 ≠ bp := by have := au ax; omega
 replace hF := hF.go0 U2
 have rD : w.heap.size ≤ bp := by have := hF.size; omega
 have OO : ¬ aC _ bs := fun h => by have := (Own.ge ae h).1; have := au aI; omega
 have QP : _ ∨ ∀ k, _ → ¬ aC _ k := (gZ.lt).imp_right fun h k hk hs => by have := h k hk; have := (Own.ge ae hs).1; omega
 have OQ : ¬ aC _ b1 := fun h => by have := (Own.ge ae h).1; have := au ah; omega
 have OT : ¬ aC _ b2 := fun h => by have := (Own.ge ae h).1; have := au ax; omega
 replace ae := ae.mono (B' := w.heap.size) hF.size
 replace aI := N3
 replace hF := hF.go U3 (fun i _ h => h)
 replace ah := U3.ak ah (Ne.symm xB)
 refine Z.b 5 ((Gs.ce x fA fn fc).toArray) ah ?_
 replace gZ := gZ.aA U3 nax3
 replace ax := U3.ak ax (Ne.symm jg)
 refine aJ (Eh (s := (Gs.bM s 0)) aI af ae hS1 gZ hwx hlx (by assumption) (by assumption) nax3 (i := 0) ⟨by decide, by omega⟩) (fun v4 w4 D4 => ?_)
 have aK := ae
 have qF4 := hF.size
 obtain ⟨rfl, af, ae, U4⟩ := D4
 replace aI := U4.get aI (fun hs => by rcases hs with hs | hs <;> first | (first | exact Own.aP aK aI (by decide) _ hs rfl | (have := Own.ge aK hs; omega)) | (exact absurd hs ui))
 replace ax := U4.get ax (fun hs => by rcases hs with hs | hs <;> first | (first | exact Own.aP aK ax (by decide) _ hs rfl | (have := Own.ge aK hs; omega)) | (exact absurd hs CJ))
 replace hF := hF.go U4 (fun i hi hs => by (rcases hs with hs | hs <;> first | (subst hs; omega) | (have := (Own.ge aK hs).1; omega)))
 clear aK
 refine Z.t 4 ((Gs.re (Gs.iW s x.m 0).2).toArray) (by (simp [Value.cells, Value.oneCell', Gs.cv, Gs.fv, Gs.ie, Gs.pe, Gs.oe, Gs.bT, Gs.fe, Gs.fC, Gs.ce, Gs.dX, Gs.re]; done)) ax (fun w5 ax _ U5 => ?_)
 replace ae := ae.aA U5 (Own.aP ae (by assumption) (by decide))
 refine Z.a 4 ax ?_
 replace af := U5.ak af (Ne.symm CJ)
 rw [(hS.erase (c := x.m) (Gs.rZ.of hwx.2.2) 0).2.1] at af ae
 replace aI := U5.ak aI jg
 replace hF := hF.go1 U5 fF
 exact ⟨_, rfl, rfl, bp, g, aI, rD, af, ae, hF⟩
theorem Ue {n0 : Nat} {s : Gs.jb} {pv : Option Addr} {bs : Nat} {w : World} (aI : Z.h w bs #[Z.i s.r0, Z.i s.c0, Z.i s.r1, Z.i s.c1, Z.i s.wh, .pointer pv] 89) (hS : Gs.Sw n0 s) {x : Gs.o8} {fA : Option Addr} {fn fc : Nat} (gZ : Gs.iw w [⟨0, 0, x⟩]) (hwx : Gs.AA x) (hlx : Gs.EU x.os ∧ x.os.length ≤ 100000) (nax3 : [(⟨0, 0, x⟩ : Gs.Fd)] = [] ∨ ∀ k, Gs.kZ [⟨0, 0, x⟩] k → k ≠ bs) :
    oX 109 #[Z.p bs, .agg (Gs.ce x fA fn fc).toArray, Z.i 1] w fun e w' => ∃ v, e = .returned v ∧ v = .agg (Gs.re (Gs.iW s x.m 1).2).toArray ∧ ∃ bp g, Z.h w' bs #[Z.i (Gs.iW s x.m 1).1.r0, Z.i (Gs.iW s x.m 1).1.c0, Z.i (Gs.iW s x.m 1).1.r1, Z.i (Gs.iW s x.m 1).1.c1, Z.i (Gs.iW s x.m 1).1.wh, Z.p bp] 89 ∧ w.heap.size ≤ bp ∧ Z.h w' bp #[Z.i (Gs.iW s x.m 1).1.r, Z.i (Gs.iW s x.m 1).1.c, .slice (some ⟨g, 0, none⟩) (Gs.iW s x.m 1).1.cs.length (Gs.iW s x.m 1).1.cs.length, Z.i (Gs.iW s x.m 1).1.cur] 91 ∧ Own w.heap.size w' 37 5 (.slice (some ⟨g, 0, none⟩) (Gs.iW s x.m 1).1.cs.length (Gs.iW s x.m 1).1.cs.length) (rows Gs.cv (Gs.iW s x.m 1).1.cs) ∧ az (· = bs) w w' := by
 refine Ou.calls ?_
 unfold Ou
 have ah0 := au aI
 have ake := gZ.lt
 have hF : az (· = bs) w w := Fr.refl _ _ _
 refine Z.x ((Gs.ce x fA fn fc).toArray) (fun b1 w1 e1 ah _ U1 => ?_)
 have xB : bs ≠ b1 := by have := au aI; omega
 have acz := gZ.apart e1
 have bU : w.heap.size ≤ b1 := by have := hF.size; omega
 refine Z.n ((Gs.re Gs.qp).toArray) (fun b2 w2 e2 ax _ U2 => ?_)
 replace aI := U1.ag aI
 have jg : bs ≠ b2 := by have := au aI; omega
 replace gZ := gZ.ai U1
 have acA := gZ.apart e2
 have lJ : b1 ≠ b2 := by have := au ah; omega
 replace hF := hF.go0 U1
 have fF : w.heap.size ≤ b2 := by have := hF.size; omega
 replace aI := U2.ag aI
 refine aJ (Hl aI hS.1.1 hS.1.2) (fun v3 w3 D3 => ?_)
 obtain ⟨bp, g, N3, gbp, af, ae, U3⟩ := D3
 have hS1 := hS.renew 1
 have hp1 := hS1.2.2.2.2.1
 have hc1 : (Gs.bM s 1).cur = 0 := by unfold Gs.bM; split <;> rfl
 have ui : bs ≠ bp := by have := au aI; omega
 replace gZ := gZ.ai U2
 have acB := (gZ.lt).ne (b := bp) (by omega)
 replace ah := U2.ag ah
 have aev : b1 ≠ bp := by have := au ah; omega
 have CJ : b2 ≠ bp := by have := au ax; omega
 replace hF := hF.go0 U2
 have rD : w.heap.size ≤ bp := by have := hF.size; omega
 have OO : ¬ aC _ bs := fun h => by have := (Own.ge ae h).1; have := au aI; omega
 have QP : _ ∨ ∀ k, _ → ¬ aC _ k := (gZ.lt).imp_right fun h k hk hs => by have := h k hk; have := (Own.ge ae hs).1; omega
 have OQ : ¬ aC _ b1 := fun h => by have := (Own.ge ae h).1; have := au ah; omega
 have OT : ¬ aC _ b2 := fun h => by have := (Own.ge ae h).1; have := au ax; omega
 replace ae := ae.mono (B' := w.heap.size) hF.size
 replace aI := N3
 replace hF := hF.go U3 (fun i _ h => h)
 replace ah := U3.ak ah (Ne.symm xB)
 refine Z.b 5 ((Gs.ce x fA fn fc).toArray) ah ?_
 replace gZ := gZ.aA U3 nax3
 replace ax := U3.ak ax (Ne.symm jg)
 refine aJ (Eh (s := (Gs.bM s 1)) aI af ae hS1 gZ hwx hlx (by assumption) (by assumption) nax3 (i := 0) ⟨by decide, by omega⟩) (fun v4 w4 D4 => ?_)
 have aK := ae
 have qF4 := hF.size
 obtain ⟨rfl, af, ae, U4⟩ := D4
 replace aI := U4.get aI (fun hs => by rcases hs with hs | hs <;> first | (first | exact Own.aP aK aI (by decide) _ hs rfl | (have := Own.ge aK hs; omega)) | (exact absurd hs ui))
 replace ax := U4.get ax (fun hs => by rcases hs with hs | hs <;> first | (first | exact Own.aP aK ax (by decide) _ hs rfl | (have := Own.ge aK hs; omega)) | (exact absurd hs CJ))
 replace hF := hF.go U4 (fun i hi hs => by (rcases hs with hs | hs <;> first | (subst hs; omega) | (have := (Own.ge aK hs).1; omega)))
 clear aK
 refine Z.t 4 ((Gs.re (Gs.iW s x.m 1).2).toArray) (by (simp [Value.cells, Value.oneCell', Gs.cv, Gs.fv, Gs.ie, Gs.pe, Gs.oe, Gs.bT, Gs.fe, Gs.fC, Gs.ce, Gs.dX, Gs.re]; done)) ax (fun w5 ax _ U5 => ?_)
 replace ae := ae.aA U5 (Own.aP ae (by assumption) (by decide))
 refine Z.a 4 ax ?_
 replace af := U5.ak af (Ne.symm CJ)
 rw [(hS.erase (c := x.m) (Gs.rZ.of hwx.2.2) 1).2.1] at af ae
 replace aI := U5.ak aI jg
 replace hF := hF.go1 U5 fF
 exact ⟨_, rfl, rfl, bp, g, aI, rD, af, ae, hF⟩
theorem aas {x : Int} {w : World} (hx : 0 ≤ x ∧ x ≤ 255) :
    oX 172 #[Z.u x] w fun e w' => e = .returned (Z.i (if x = 0 then 0 else 1)) ∧ az no w w' := by
 refine Zz.calls ?_
 unfold Zz
 have hF : az no w w := Fr.refl _ _ _
 refine ay (dC _ _ _ _ _) (fun h1 => ?_) (fun h1 => ?_)
 refine aH ?_
 rw [if_pos (by assumption)]; exact ⟨rfl, hF⟩
 refine aB ?_
 rw [if_neg (by assumption)]; exact ⟨rfl, hF⟩
set_option maxHeartbeats 2000000 in
theorem PW {s : Gs.jb} {A : Option Addr} {n cp bp bs B0 : Nat} {w : World} (aI : Z.h w bs #[Z.i s.r0, Z.i s.c0, Z.i s.r1, Z.i s.c1, Z.i s.wh, Z.p bp] 89) (af : Z.h w bp #[Z.i s.r, Z.i s.c, .slice A n cp, Z.i s.cur] 91) (ae : Own B0 w 37 5 (.slice A n cp) (rows Gs.cv s.cs)) (hS : Gs.Sw n s) (hB0 : B0 ≤ w.heap.size) {x : Gs.o8} {fA : Option Addr} {fn fc : Nat} (gZ : Gs.iw w [⟨0, 0, x⟩]) (hwx : Gs.AA x) (hlx : Gs.EU x.os ∧ x.os.length ≤ 100000) (nax1 : [(⟨0, 0, x⟩ : Gs.Fd)] = [] ∨ ∀ k, Gs.kZ [⟨0, 0, x⟩] k → ¬ aC (.slice A n cp) k) (nax2 : [(⟨0, 0, x⟩ : Gs.Fd)] = [] ∨ ∀ k, Gs.kZ [⟨0, 0, x⟩] k → k ≠ bp) (nax3 : [(⟨0, 0, x⟩ : Gs.Fd)] = [] ∨ ∀ k, Gs.kZ [⟨0, 0, x⟩] k → k ≠ bs) (hk243 : ¬ x.k = 243) :
    oX 65 #[Z.p bs, .agg (Gs.ce x fA fn fc).toArray] w (Xx (Gs.pz s x.m).1 (Gs.pz s x.m).2 A n cp bp bs B0 w) := by
 refine Xb.calls ?_
 unfold Xb
 have hW := hS.2
 obtain ⟨hn, hcw, hcu, hp, hN, hb⟩ := id hW
 have hF : az (fun k => (aC (.slice A n cp) k ∨ k = bp) ∨ k = bs) w w := Fr.refl _ _ _
 refine Z.x ((Gs.ce x fA fn fc).toArray) (fun b1 w1 e1 ah _ U1 => ?_)
 have gV := ae.apart e1
 refine Z.n ((Gs.re Gs.qp).toArray) (fun b2 w2 e2 ax _ U2 => ?_)
 replace aI := U1.ag aI
 have jg : bs ≠ b2 := by have := au aI; omega
 replace af := U1.ag af
 have fH : bp ≠ b2 := by have := au af; omega
 replace ae := ae.ai U1
 have dN := ae.apart e2
 replace hF := hF.go0 U1
 have fF : w.heap.size ≤ b2 := by have := hF.size; omega
 refine Z.f 0 ?_
 replace ah := U2.ag ah
 refine Z.l ah ?_
 refine ay (dC _ _ _ _ _) (fun h3 => ?_) (fun h3 => ?_)
 refine aH ?_
 refine bH (fun g w' => (Z.h w' bs #[Z.i s.r0, Z.i s.c0, Z.i s.r1, Z.i s.c1, Z.i s.wh, Z.p bp] 89) ∧ (Z.h w' bp #[Z.i s.r, Z.i s.c, .slice A n cp, Z.i s.cur] 91) ∧ (Own B0 w' 37 5 (.slice A n cp) (rows Gs.cv (Gs.Gn s x.w).cs)) ∧ (Gs.iw w' [⟨0, 0, x⟩]) ∧ (Z.h w' b1 ((Gs.ce x fA fn fc).toArray) 124) ∧ (Z.h w' b2 ((Gs.re Gs.qp).toArray) 66) ∧ (az (fun k => (aC (.slice A n cp) k ∨ k = bp) ∨ k = bs) w w')) (fun J1 hJ1 => ?_) (fun gJ1 jX hI => ?_)
 refine Z.f 1 ?_
 refine Z.l ah ?_
 refine dS (Vw hwx.2.1) (fun w4 U4 h4 => ?_) (fun w4 U4 h4 => ?_)
 simp only [Z.d, Z.c] at h4
 refine aH ?_
 refine dm ?_
 refine Z.f 5 ?_
 replace aI := U4.ag (U2.ag aI)
 refine Z.l aI ?_
 replace ae := (ae.ai U2).ai U4
 replace af := U4.ag (U2.ag af)
 refine aJ (Ox af ae hn hN hb hcw) (fun v5 w5 D5 => ?_)
 obtain ⟨rfl, N5, U5⟩ := D5
 have aK := ae
 replace aI := U5.get aI (fun h => Own.aP aK aI (by decide) _ h rfl)
 replace af := U5.get af (fun h => Own.aP aK af (by decide) _ h rfl)
 replace ae := N5
 replace gZ := ((gZ.ai U1).ai U2).ai U4
 replace gZ := gZ.eH U5 nax1
 replace ah := U4.ag ah
 replace ah := U5.get ah (fun h => gV _ h rfl)
 replace ax := U4.ag ax
 replace ax := U5.get ax (fun h => dN _ h rfl)
 replace hF := (hF.go0 U2).go0 U4
 replace hF := hF.go U5 (fun i h hs => .inl (.inl hs))
 clear aK
 refine hJ1 _ _ ?_
 exact ⟨aI, af, (by unfold Gs.Gn; dsimp only; (rw [if_pos (by assumption)]; exact ae)), gZ, ah, ax, hF⟩
 simp only [Z.d, Z.c] at h4
 refine aB ?_
 refine hJ1 _ _ ?_
 replace gZ := ((gZ.ai U1).ai U2).ai U4
 replace ae := (ae.ai U2).ai U4
 replace aI := U4.ag (U2.ag aI)
 replace af := U4.ag (U2.ag af)
 replace hF := (hF.go0 U2).go0 U4
 replace ah := U4.ag ah
 replace ax := U4.ag ax
 exact ⟨aI, af, (by unfold Gs.Gn; dsimp only; (rw [if_neg (by assumption)]; exact ae)), gZ, ah, ax, hF⟩
 replace gZ := (gZ.ai U1).ai U2
 replace ae := ae.ai U2
 replace aI := U2.ag aI
 replace af := U2.ag af
 replace hF := hF.go0 U2
 obtain ⟨aI, af, ae, gZ, ah, ax, hF⟩ := hI
 refine dQ (S := no) (fun w6 U6 => ?_)
 replace ah := U6.ag ah
 refine bi (fun w' hw' => by have ah := hw'.ag ah; exact (BH (n := 5) (cs' := (Gs.ce x fA fn fc).toArray) (by kernel_rfl) ah (Nat.le_of_ble_eq_true rfl) (by rfl))) ?_
 refine gK ?_
 refine Z.g 5 ?_
 replace aI := U6.ag aI
 refine Z.m aI ?_
 replace ae := ae.ai U6
 replace af := U6.ag af
 refine fU (fun w' hw' => by have af := hw'.ag af; have ae := ae.ai hw'; exact gz af ae (hS.cln x.w).2.1) ?_
 refine aF (fun w8 U8 => ?_)
 replace gZ := (gZ.ai U6).ai U8
 replace ae := ae.ai U8
 replace aI := U8.ag aI
 replace af := U8.ag af
 refine aJ (Eh (s := Gs.Gn s x.w) aI af ae (hS.cln x.w) gZ hwx hlx nax1 nax2 nax3 (i := s.cur) hcu) (fun v9 w9 D9 => ?_)
 have aK := ae
 replace hF := (hF.go0 U6).go0 U8
 have qF9 := hF.size
 obtain ⟨rfl, af, ae, U9⟩ := D9
 replace aI := U9.get aI (fun hs => by rcases hs with hs | hs <;> first | (first | exact Own.aP aK aI (by decide) _ hs rfl | (have := Own.ge aK hs; omega)) | (exact absurd hs (by exact fE (by assumption) (by assumption) (by decide))))
 replace ax := U8.ag (U6.ag ax)
 replace ax := U9.get ax (fun hs => by rcases hs with hs | hs <;> first | (first | exact Own.aP aK ax (by decide) _ hs rfl | (have := Own.ge aK hs; omega)) | (exact absurd hs (Ne.symm fH)))
 replace hF := hF.go U9 (fun i hi hs => .inl hs)
 clear aK
 refine aF (fun w10 aT => ?_)
 replace ax := aT.ag ax
 refine Z.t 4 ((Gs.re (Gs.rE (Gs.Gn s x.w) x.m s.cur).2).toArray) (by (simp [Value.cells, Value.oneCell', Gs.cv, Gs.fv, Gs.ie, Gs.pe, Gs.oe, Gs.bT, Gs.fe, Gs.fC, Gs.ce, Gs.dX, Gs.re]; done)) ax (fun oz ax _ bK => ?_)
 refine aF (fun w12 cZ => ?_)
 replace ax := cZ.ag ax
 refine Z.a 4 ax ?_
 replace ae := ((ae.ai aT).aA bK dN).ai cZ
 replace aI := cZ.ag (bK.ak (aT.ag aI) jg)
 replace af := cZ.ag (bK.ak (aT.ag af) fH)
 replace hF := ((hF.go0 aT).go1 bK fF).go0 cZ
 rw [Gs.ami (c := x.m) (by assumption)]; exact ⟨_, rfl, rfl, bp, A, n, cp, aI, af, ae, ((hS.cln x.w).write (Gs.rZ.of hwx.2.2) hcu).2.1, .inl rfl, (fun k hk => .inl hk), hF⟩
 refine aB ?_
 refine ay (dC _ _ _ _ _) (fun h14 => ?_) (fun h14 => ?_)
 refine aH ?_
 refine Z.b 5 ((Gs.ce x fA fn fc).toArray) ah ?_
 replace gZ := (gZ.ai U1).ai U2
 replace aI := U2.ag aI
 refine aJ (Ud aI hS gZ hwx hlx nax3) (fun v15 uN D15 => ?_)
 obtain ⟨rfl, bp2, g2, N15, gbp2, uj, jU, dH⟩ := D15
 have Ac : b2 ≠ bp2 := by have := au ax; omega
 replace hF := hF.go0 U2
 have CO : w.heap.size ≤ bp2 := by have := hF.size; omega
 replace jU := jU.mono (B' := w.heap.size) hF.size
 replace aI := N15
 replace hF := hF.go dH (fun i _ h => .inr h)
 replace ax := dH.ak ax (Ne.symm jg)
 refine Z.t 4 ((Gs.re (Gs.iW s x.m 0).2).toArray) (by (simp [Value.cells, Value.oneCell', Gs.cv, Gs.fv, Gs.ie, Gs.pe, Gs.oe, Gs.bT, Gs.fe, Gs.fC, Gs.ce, Gs.dX, Gs.re]; done)) ax (fun w16 ax _ bZ => ?_)
 replace jU := jU.aA bZ (Own.aP jU (by assumption) (by decide))
 refine Z.a 4 ax ?_
 replace aI := bZ.ak aI jg
 replace uj := bZ.ak uj (Ne.symm Ac)
 replace hF := hF.go1 bZ fF
 rw [Gs.amj (c := x.m) (by assumption)]; exact ⟨_, rfl, rfl, bp2, some ⟨g2, 0, none⟩, _, _, aI, uj, jU.mono hB0, rfl, .inr CO, (fun k hk => .inr (Own.ge jU hk).1), hF⟩
 refine aB ?_
 refine ay (dC _ _ _ _ _) (fun h18 => ?_) (fun h18 => ?_)
 refine aH ?_
 refine Z.b 5 ((Gs.ce x fA fn fc).toArray) ah ?_
 replace gZ := (gZ.ai U1).ai U2
 replace aI := U2.ag aI
 refine aJ (Ue aI hS gZ hwx hlx nax3) (fun v19 yK D19 => ?_)
 obtain ⟨rfl, bp2, g2, N19, gbp2, uj, jU, eu⟩ := D19
 have Ac : b2 ≠ bp2 := by have := au ax; omega
 replace hF := hF.go0 U2
 have CO : w.heap.size ≤ bp2 := by have := hF.size; omega
 replace jU := jU.mono (B' := w.heap.size) hF.size
 replace aI := N19
 replace hF := hF.go eu (fun i _ h => .inr h)
 replace ax := eu.ak ax (Ne.symm jg)
 refine Z.t 4 ((Gs.re (Gs.iW s x.m 1).2).toArray) (by (simp [Value.cells, Value.oneCell', Gs.cv, Gs.fv, Gs.ie, Gs.pe, Gs.oe, Gs.bT, Gs.fe, Gs.fC, Gs.ce, Gs.dX, Gs.re]; done)) ax (fun wE ax _ dJ => ?_)
 replace jU := jU.aA dJ (Own.aP jU (by assumption) (by decide))
 refine Z.a 4 ax ?_
 replace aI := dJ.ak aI jg
 replace uj := dJ.ak uj (Ne.symm Ac)
 replace hF := hF.go1 dJ fF
 rw [Gs.amk (c := x.m) (by assumption)]; exact ⟨_, rfl, rfl, bp2, some ⟨g2, 0, none⟩, _, _, aI, uj, jU.mono hB0, rfl, .inr CO, (fun k hk => .inr (Own.ge jU hk).1), hF⟩
 refine aB ?_
 refine ay (dC _ _ _ _ _) (fun h22 => ?_) (fun h22 => ?_)
 refine aH ?_
 refine dm ?_
 refine Z.f 5 ?_
 replace aI := U2.ag aI
 refine Z.l aI ?_
 replace ae := ae.ai U2
 replace af := U2.ag af
 refine aJ (Ub af ae hW) (fun v23 AB D23 => ?_)
 obtain ⟨q41, rfl, M23, N23, eF⟩ := D23
 have aK := ae
 replace ae := N23
 replace aI := eF.get aI (fun hs => Or.elim (show aC _ _ ∨ _ = _ from hs) (fun h => Own.aP aK aI (by decide) _ h rfl) (fun hb => absurd hb (by exact fE (by assumption) (by assumption) (by decide))))
 replace ax := eF.get ax (fun hs => Or.elim (show aC _ _ ∨ _ = _ from hs) (fun h => dN _ h rfl) (fun hb => absurd hb (Ne.symm fH)))
 replace af := M23
 replace hF := hF.go0 U2
 replace hF := hF.go eF (fun i h hs => Or.elim (show aC _ _ ∨ _ = _ from hs) (fun hs => .inl (.inl hs)) (fun hb => by (subst hb; omega)))
 clear aK
 refine aj (bz (l := [(0, 1), (1, 1), (2, 1), (3, 1)]) (z := #[Z.u 0, .bool false, .bool false, Z.i 0]) (cs := Gs.re ⟨0, true, false, 0⟩) (by kernel_rfl) (by rfl)) ?_
 refine Z.t 4 ((Gs.re ⟨0, true, false, 0⟩).toArray) (by (simp [Value.cells, Value.oneCell', Gs.cv, Gs.fv, Gs.ie, Gs.pe, Gs.oe, Gs.bT, Gs.fe, Gs.fC, Gs.ce, Gs.dX, Gs.re]; done)) ax (fun Hy ax _ iD => ?_)
 refine Z.a 4 ax ?_
 replace ae := ae.aA iD dN
 replace aI := iD.ak aI jg
 replace af := iD.ak af fH
 replace hF := hF.go1 iD fF
 rw [Gs.aml (c := x.m) (by assumption)]; exact ⟨_, rfl, rfl, bp, A, n, cp, aI, af, ae, hn.trans (Gs.PX _).symm, .inl rfl, (fun k hk => .inl hk), hF⟩
 refine aB ?_
 refine bH (fun g w' => (g 43 = .bool (decide (x.k = 242 ∨ x.k = 246 ∨ x.k = 110))) ∧ (Z.h w' bs #[Z.i s.r0, Z.i s.c0, Z.i s.r1, Z.i s.c1, Z.i s.wh, Z.p bp] 89) ∧ (Z.h w' bp #[Z.i s.r, Z.i s.c, .slice A n cp, Z.i s.cur] 91) ∧ (Own B0 w' 37 5 (.slice A n cp) (rows Gs.cv s.cs)) ∧ (Gs.iw w' [⟨0, 0, x⟩]) ∧ (Z.h w' b1 ((Gs.ce x fA fn fc).toArray) 124) ∧ (Z.h w' b2 ((Gs.re Gs.qp).toArray) 66) ∧ (az (fun k => (aC (.slice A n cp) k ∨ k = bp) ∨ k = bs) w w')) (fun J2 hJ2 => ?_) (fun gJ2 RI hI => ?_)
 refine ay (dC _ _ _ _ _) (fun h27 => ?_) (fun h27 => ?_)
 refine aH ?_
 refine hJ2 _ _ ?_
 replace gZ := (gZ.ai U1).ai U2
 replace ae := ae.ai U2
 replace aI := U2.ag aI
 replace af := U2.ag af
 replace hF := hF.go0 U2
 exact ⟨(by exact congrArg Value.bool (decide_eq_true (by omega)).symm), aI, af, ae, gZ, ah, ax, hF⟩
 refine aB ?_
 refine ay (dC _ _ _ _ _) (fun h28 => ?_) (fun h28 => ?_)
 refine aH ?_
 refine hJ2 _ _ ?_
 replace gZ := (gZ.ai U1).ai U2
 replace ae := ae.ai U2
 replace aI := U2.ag aI
 replace af := U2.ag af
 replace hF := hF.go0 U2
 exact ⟨(by exact congrArg Value.bool (decide_eq_true (by omega)).symm), aI, af, ae, gZ, ah, ax, hF⟩
 refine aB ?_
 refine ay (dC _ _ _ _ _) (fun h29 => ?_) (fun h29 => ?_)
 refine hJ2 _ _ ?_
 replace gZ := (gZ.ai U1).ai U2
 replace ae := ae.ai U2
 replace aI := U2.ag aI
 replace af := U2.ag af
 replace hF := hF.go0 U2
 exact ⟨(by exact congrArg Value.bool (decide_eq_true (by omega)).symm), aI, af, ae, gZ, ah, ax, hF⟩
 refine hJ2 _ _ ?_
 replace gZ := (gZ.ai U1).ai U2
 replace ae := ae.ai U2
 replace aI := U2.ag aI
 replace af := U2.ag af
 replace hF := hF.go0 U2
 exact ⟨(by exact congrArg Value.bool (decide_eq_false (by omega)).symm), aI, af, ae, gZ, ah, ax, hF⟩
 replace gZ := (gZ.ai U1).ai U2
 replace ae := ae.ai U2
 replace aI := U2.ag aI
 replace af := U2.ag af
 replace hF := hF.go0 U2
 obtain ⟨g43, aI, af, ae, gZ, ah, ax, hF⟩ := hI
 rw [g43]
 refine jZ (fun h30 => ?_) (fun h30 => ?_)
 simp only [Z.d, Z.c] at h30
 refine Z.f 0 ?_
 refine Z.l ah ?_
 refine aj (bz (l := [(0, 1), (1, 1), (2, 1), (3, 1)]) (z := #[Z.u 0, .bool false, .bool false, Z.i 0]) (cs := Gs.re ⟨x.k, false, false, 0⟩) (by kernel_rfl) (by rfl)) ?_
 refine Z.t 4 ((Gs.re ⟨x.k, false, false, 0⟩).toArray) (by (simp [Value.cells, Value.oneCell', Gs.cv, Gs.fv, Gs.ie, Gs.pe, Gs.oe, Gs.bT, Gs.fe, Gs.fC, Gs.ce, Gs.dX, Gs.re]; done)) ax (fun w32 ax _ kw => ?_)
 refine Z.a 4 ax ?_
 replace ae := ae.aA kw dN
 replace aI := kw.ak aI jg
 replace af := kw.ak af fH
 replace hF := hF.go1 kw fF
 rw [Gs.amm (c := x.m) (by assumption)]; exact ⟨_, rfl, rfl, bp, A, n, cp, aI, af, ae, hn, .inl rfl, (fun k hk => .inl hk), hF⟩
 simp only [Z.d, Z.c] at h30
 refine nM (dC _ _ _ _ _) (hk243) ?_
 refine aB ?_
 refine aj (bz (l := [(0, 1), (1, 1), (2, 1), (3, 1)]) (z := #[Z.u 0, .bool false, .bool false, Z.i 0]) (cs := Gs.re (Gs.wV 30)) (by kernel_rfl) (by rfl)) ?_
 refine Z.t 4 ((Gs.re (Gs.wV 30)).toArray) (by (simp [Value.cells, Value.oneCell', Gs.cv, Gs.fv, Gs.ie, Gs.pe, Gs.oe, Gs.bT, Gs.fe, Gs.fC, Gs.ce, Gs.dX, Gs.re]; done)) ax (fun w35 ax _ pF => ?_)
 refine Z.a 4 ax ?_
 replace ae := ae.aA pF dN
 replace aI := pF.ak aI jg
 replace af := pF.ak af fH
 replace hF := hF.go1 pF fF
 rw [Gs.amn (c := x.m) (by show ¬ (x.k = 241 ∨ x.k = 245 ∨ x.k = 126 ∨ x.k = 111 ∨ x.k = 242 ∨ x.k = 246 ∨ x.k = 110); omega)]; exact ⟨_, rfl, rfl, bp, A, n, cp, aI, af, ae, hn, .inl rfl, (fun k hk => .inl hk), hF⟩
set_option maxHeartbeats 1000000 in
theorem VY {s : Gs.jb} {A : Option Addr} {n cp bp bs B0 : Nat} {w : World} (aI : Z.h w bs #[Z.i s.r0, Z.i s.c0, Z.i s.r1, Z.i s.c1, Z.i s.wh, Z.p bp] 89) (af : Z.h w bp #[Z.i s.r, Z.i s.c, .slice A n cp, Z.i s.cur] 91) (ae : Own B0 w 37 5 (.slice A n cp) (rows Gs.cv s.cs)) (hS : Gs.Sw n s) (hB0 : B0 ≤ w.heap.size) {f : Gs.Fd} (gZ : Gs.iw w [f]) (hwf : (0 ≤ f.id ∧ f.id ≤ 255) ∧ (0 ≤ f.op ∧ f.op ≤ 255) ∧ Gs.AA f.c) (hlx : Gs.EU f.c.os ∧ f.c.os.length ≤ 100000) (hin : f.id = 1 ∨ f.id = 3 ∨ Gs.sH f.c.k) (nax1 : [(f : Gs.Fd)] = [] ∨ ∀ k, Gs.kZ [f] k → ¬ aC (.slice A n cp) k) (nax2 : [(f : Gs.Fd)] = [] ∨ ∀ k, Gs.kZ [f] k → k ≠ bp) (nax3 : [(f : Gs.Fd)] = [] ∨ ∀ k, Gs.kZ [f] k → k ≠ bs)  :
    oX 153 #[Z.p bs, .agg (Gs.fe f).toArray] w (Xx (Gs.gB s f.m).1 (Gs.gB s f.m).2 A n cp bp bs B0 w) := by
 refine Zp.calls ?_
 unfold Zp
 have hW := hS.2
 obtain ⟨hn, hcw, hcu, hp, hN, hb⟩ := id hW
 have hF : az (fun k => (aC (.slice A n cp) k ∨ k = bp) ∨ k = bs) w w := Fr.refl _ _ _
 refine Z.x ((Gs.fe f).toArray) (fun b1 w1 e1 ah _ U1 => ?_)
 refine Z.n ((Gs.re Gs.qp).toArray) (fun b2 w2 e2 ax _ U2 => ?_)
 replace aI := U1.ag aI
 have jg : bs ≠ b2 := by have := au aI; omega
 replace af := U1.ag af
 have fH : bp ≠ b2 := by have := au af; omega
 replace ae := ae.ai U1
 have dN := ae.apart e2
 replace hF := hF.go0 U1
 have fF : w.heap.size ≤ b2 := by have := hF.size; omega
 refine Z.f 0 ?_
 replace ah := U2.ag ah
 refine Z.l ah ?_
 refine ay (dC _ _ _ _ _) (fun h3 => ?_) (fun h3 => ?_)
 refine aH ?_
 refine Z.f 1 ?_
 refine Z.l ah ?_
 refine aj (bz (l := [(0, 1), (1, 1), (2, 1), (3, 1)]) (z := #[Z.u 0, .bool false, .bool false, Z.i 0]) (cs := Gs.re ⟨f.op, false, false, 0⟩) (by kernel_rfl) (by rfl)) ?_
 refine Z.t 4 ((Gs.re ⟨f.op, false, false, 0⟩).toArray) (by (simp [Value.cells, Value.oneCell', Gs.cv, Gs.fv, Gs.ie, Gs.pe, Gs.oe, Gs.bT, Gs.fe, Gs.fC, Gs.ce, Gs.dX, Gs.re]; done)) ax (fun w5 ax _ U5 => ?_)
 refine Z.a 4 ax ?_
 replace ae := (ae.ai U2).aA U5 dN
 replace aI := U5.ak (U2.ag aI) jg
 replace af := U5.ak (U2.ag af) fH
 replace hF := (hF.go0 U2).go1 U5 fF
 rw [Gs.ah1 (f := f.m) (by assumption)]; exact ⟨_, rfl, rfl, bp, A, n, cp, aI, af, ae, hn, .inl rfl, (fun k hk => .inl hk), hF⟩
 refine aB ?_
 refine ay (dC _ _ _ _ _) (fun h7 => ?_) (fun h7 => ?_)
 refine aH ?_
 refine Z.f 1 ?_
 refine Z.l ah ?_
 refine aG (aas hwf.2.1) (fun w8 U8 => ?_)
 replace aI := U8.ag (U2.ag aI)
 refine aJ (Uc aI hS.1.1 hS.1.2 (j := if f.op = 0 then 0 else 1) (by split <;> simp)) (fun v9 w9 D9 => ?_)
 obtain ⟨bp2, g2, N9, gbp2, uj, jU, U9⟩ := D9
 replace ax := U8.ag ax
 have Ac : b2 ≠ bp2 := by have := au ax; omega
 replace hF := (hF.go0 U2).go0 U8
 have CO : w.heap.size ≤ bp2 := by have := hF.size; omega
 replace jU := jU.mono (B' := w.heap.size) hF.size
 replace aI := N9
 replace hF := hF.go U9 (fun i _ h => .inr h)
 refine aj (bz (l := [(0, 1), (1, 1), (2, 1), (3, 1)]) (z := #[Z.u 0, .bool false, .bool false, Z.i 0]) (cs := Gs.re Gs.qp) (by kernel_rfl) (by rfl)) ?_
 replace ax := U9.ak ax (Ne.symm jg)
 refine Z.t 4 ((Gs.re Gs.qp).toArray) (by (simp [Value.cells, Value.oneCell', Gs.cv, Gs.fv, Gs.ie, Gs.pe, Gs.oe, Gs.bT, Gs.fe, Gs.fC, Gs.ce, Gs.dX, Gs.re]; done)) ax (fun oz ax _ bK => ?_)
 replace jU := jU.aA bK (Own.aP jU (by assumption) (by decide))
 refine Z.a 4 ax ?_
 replace aI := bK.ak aI jg
 replace uj := bK.ak uj (Ne.symm Ac)
 replace hF := hF.go1 bK fF
 rw [Gs.ah2 (f := f.m) (by assumption)]; exact ⟨_, rfl, rfl, bp2, some ⟨g2, 0, none⟩, _, _, aI, uj, jU.mono hB0, rfl, .inr CO, (fun k hk => .inr (Own.ge jU hk).1), hF⟩
 refine aB ?_
 refine Z.f 2 ?_
 refine Z.b 5 ((Gs.ce f.c none 0 0).toArray) ah ?_
 replace gZ := (gZ.ai U1).ai U2
 replace ae := ae.ai U2
 replace aI := U2.ag aI
 replace af := U2.ag af
 replace hF := hF.go0 U2
 refine aJ (PW aI af ae hS (by have := hF.size; omega) (Gs.iw.WI gZ rfl) hwf.2.2 hlx (Gs.aat (x := f) rfl nax1) (Gs.aat (x := f) rfl nax2) (Gs.aat (x := f) rfl nax3) (fun h => hin.elim (by assumption) (fun h2 => h2.elim (by assumption) (fun h3 => by unfold Gs.sH Gs.oK at h3; omega)))) (fun v13 uM D13 => ?_)
 have aK := ae
 have qF13 := hF.size
 have qF24 := hF.size
 obtain ⟨rfl, bp24, A24, n24, cp24, aI, EW, zl, hn24, hb24, ho24, dI⟩ := D13
 replace ax := dI.get ax (fun hs => by rcases hs with (hs | hs) | hs <;> first | (first | exact Own.aP aK ax (by decide) _ hs rfl | (have := Own.ge aK hs; omega)) | (exact absurd hs (Ne.symm fH)) | (exact absurd hs (Ne.symm jg)))
 replace hF := hF.go dI (fun i hi hs => by exact hs)
 clear aK
 refine Z.n ((Gs.re Gs.qp).toArray) (fun b14 sJ e14 dR _ dw => ?_)
 have vI : b2 ≠ b14 := by have := au ax; omega
 have Ad : bs ≠ b14 := by have := au aI; omega
 have JM : bp24 ≠ b14 := by have := au EW; omega
 have EX := zl.apart e14
 have pg : w.heap.size ≤ b14 := by have := hF.size; omega
 refine Z.t 4 ((Gs.re (Gs.pz s f.c.m).2).toArray) (by (simp [Value.cells, Value.oneCell', Gs.cv, Gs.fv, Gs.ie, Gs.pe, Gs.oe, Gs.bT, Gs.fe, Gs.fC, Gs.ce, Gs.dX, Gs.re]; done)) dR (fun uN dR _ dH => ?_)
 refine Z.f 0 ?_
 refine Z.s dR (fun w16 dR _ bZ => ?_)
 refine Z.b 4 _ dR ?_
 replace ax := bZ.ak (dH.ak (dw.ag ax) vI) vI
 refine gQ (n := 4) (by kernel_rfl) (by rfl) (by (simp [Value.cells, Value.oneCell', Gs.cv, Gs.fv, Gs.ie, Gs.pe, Gs.oe, Gs.bT, Gs.fe, Gs.fC, Gs.ce, Gs.dX, Gs.re]; done)) ax (Nat.le_of_ble_eq_true rfl) (by (simp; rfl)) (fun uo ax _ bY => ?_)
 replace zl := ((zl.ai dw).aA dH EX).aA bZ EX
 replace zl := zl.aA bY (Own.aP zl (by assumption) (by decide))
 replace EW := bZ.ak (dH.ak (dw.ag EW) JM) JM
 replace EW := bY.ak EW (by exact fE (by assumption) (by assumption) (by decide))
 refine Z.a 4 ax ?_
 replace aI := bY.ak (bZ.ak (dH.ak (dw.ag aI) Ad) Ad) jg
 replace hF := (((hF.go0 dw).go1 dH pg).go1 bZ pg).go1 bY fF
 rw [Gs.ah3 (f := f.m) (by assumption) (by assumption)]; exact ⟨_, rfl, rfl, bp24, A24, n24, cp24, aI, EW, zl, hn24, hb24.imp id (fun h => by omega), (fun k hk => (ho24 k hk).imp id (fun h => by omega)), hF⟩
set_option maxHeartbeats 2000000 in
theorem Uf {s : Gs.jb} {A : Option Addr} {n cp bp bs B0 : Nat} {w : World} (aI : Z.h w bs #[Z.i s.r0, Z.i s.c0, Z.i s.r1, Z.i s.c1, Z.i s.wh, Z.p bp] 89) (af : Z.h w bp #[Z.i s.r, Z.i s.c, .slice A n cp, Z.i s.cur] 91) (ae : Own B0 w 37 5 (.slice A n cp) (rows Gs.cv s.cs)) (hS : Gs.Sw n s) (hB0 : B0 ≤ w.heap.size) {x : Gs.o8} {fs : List Gs.Fd} {fA : Option Addr} {fc : Nat} (kM : Rd w fA (rows Gs.fe fs)) (iM : Gs.iw w fs) (hfw : Gs.BI fs) (hfl : Gs.Xy fs) (hfn : fs.length ≤ 100000) (nf1 : rows Gs.fe fs = [] ∨ ∀ k, fO fA k → ¬ aC (.slice A n cp) k) (nf2 : rows Gs.fe fs = [] ∨ ∀ k, fO fA k → k ≠ bp) (nf3 : rows Gs.fe fs = [] ∨ ∀ k, fO fA k → k ≠ bs) (ng1 : fs = [] ∨ ∀ k, Gs.kZ fs k → ¬ aC (.slice A n cp) k) (ng2 : fs = [] ∨ ∀ k, Gs.kZ fs k → k ≠ bp) (ng3 : fs = [] ∨ ∀ k, Gs.kZ fs k → k ≠ bs)  :
    oX 110 #[Z.p bs, .agg (Gs.ce x fA fs.length fc).toArray] w (Xx (Gs.lm x.e (Gs.qO fs) s Gs.qp).1 (Gs.lm x.e (Gs.qO fs) s Gs.qp).2 A n cp bp bs B0 w) := by
 refine Zm.calls ?_
 unfold Zm
 have hW := hS.2
 obtain ⟨hn, hcw, hcu, hp, hN, hb⟩ := id hW
 have hfml := Gs.WL fs
 have hF : az (fun k => (aC (.slice A n cp) k ∨ k = bp) ∨ k = bs) w w := Fr.refl _ _ _
 refine Z.x ((Gs.ce x fA fs.length fc).toArray) (fun b1 w1 e1 ah _ U1 => ?_)
 refine Z.n ((Gs.re Gs.qp).toArray) (fun b2 w2 e2 ax _ U2 => ?_)
 replace aI := U1.ag aI
 have jg : bs ≠ b2 := by have := au aI; omega
 replace hF := hF.go0 U1
 have fF : w.heap.size ≤ b2 := by have := hF.size; omega
 refine Z.n ((Gs.re Gs.qp).toArray) (fun b3 w3 e3 aS _ U3 => ?_)
 replace aI := U2.ag aI
 have pV : bs ≠ b3 := by have := au aI; omega
 replace kM := (kM.ai U1).ai U2
 have rF := kM.apart e3
 replace iM := (iM.ai U1).ai U2
 have rG := iM.apart e3
 replace ah := U2.ag ah
 have lM : b1 ≠ b3 := by have := au ah; omega
 have pW : b2 ≠ b3 := by have := au ax; omega
 replace hF := hF.go0 U2
 have jk : w.heap.size ≤ b3 := by have := hF.size; omega
 refine bH (fun g w' => ∃ (s1 : Gs.jb) (o1 : Gs.vT) (bp1 : Nat) (A1 : Option Addr) (n1 : Nat) (cp1 : Nat), ((Gs.lm x.e (Gs.qO fs) s Gs.qp) = (s1, if x.e = 0 then o1 else Gs.wV x.e)) ∧ (Gs.Sw n1 s1) ∧ (bp1 = bp ∨ w.heap.size ≤ bp1) ∧ (∀ k, aC (.slice A1 n1 cp1) k → aC (.slice A n cp) k ∨ w.heap.size ≤ k) ∧ (Z.h w' bs #[Z.i s1.r0, Z.i s1.c0, Z.i s1.r1, Z.i s1.c1, Z.i s1.wh, Z.p bp1] 89) ∧ (Z.h w' bp1 #[Z.i s1.r, Z.i s1.c, .slice A1 n1 cp1, Z.i s1.cur] 91) ∧ (Own B0 w' 37 5 (.slice A1 n1 cp1) (rows Gs.cv s1.cs)) ∧ (Z.h w' b3 ((Gs.re o1).toArray) 66) ∧ (Z.h w' b2 ((Gs.re Gs.qp).toArray) 66) ∧ (Z.h w' b1 ((Gs.ce x fA fs.length fc).toArray) 124) ∧ (az (fun k => (aC (.slice A n cp) k ∨ k = bp) ∨ k = bs) w w')) (fun J1 hJ1 => ?_) (fun gJ1 jX hI => ?_)
 refine Z.f 4 ?_
 replace ah := U3.ag ah
 refine Z.l ah ?_
 refine aj (gm (by kernel_rfl) _ _ _) ?_
 refine dW (fun g w' => ∃ (k : Nat) (s1 : Gs.jb) (o1 : Gs.vT) (bp1 : Nat) (A1 : Option Addr) (n1 : Nat) (cp1 : Nat), (g 12 = Z.i (k : Int)) ∧ (k ≤ fs.length) ∧ ((Gs.lm x.e (Gs.qO fs) s Gs.qp) = Gs.lm x.e ((Gs.qO fs).drop k) s1 o1) ∧ (Gs.Sw n1 s1) ∧ (bp1 = bp ∨ w.heap.size ≤ bp1) ∧ (∀ k, aC (.slice A1 n1 cp1) k → aC (.slice A n cp) k ∨ w.heap.size ≤ k) ∧ (rows Gs.fe fs = [] ∨ ∀ k, fO fA k → ¬ aC (.slice A1 n1 cp1) k) ∧ (rows Gs.fe fs = [] ∨ ∀ k, fO fA k → k ≠ bp1) ∧ (fs = [] ∨ ∀ k, Gs.kZ fs k → ¬ aC (.slice A1 n1 cp1) k) ∧ (fs = [] ∨ ∀ k, Gs.kZ fs k → k ≠ bp1) ∧ (Z.h w' bs #[Z.i s1.r0, Z.i s1.c0, Z.i s1.r1, Z.i s1.c1, Z.i s1.wh, Z.p bp1] 89) ∧ (Z.h w' bp1 #[Z.i s1.r, Z.i s1.c, .slice A1 n1 cp1, Z.i s1.cur] 91) ∧ (Own B0 w' 37 5 (.slice A1 n1 cp1) (rows Gs.cv s1.cs)) ∧ (Z.h w' b3 ((Gs.re o1).toArray) 66) ∧ (Z.h w' b2 ((Gs.re Gs.qp).toArray) 66) ∧ (Z.h w' b1 ((Gs.ce x fA fs.length fc).toArray) 124) ∧ (Rd w' fA (rows Gs.fe fs)) ∧ (Gs.iw w' fs) ∧ (az (fun k => (aC (.slice A n cp) k ∨ k = bp) ∨ k = bs) w w')) (fun g w' => fs.length - (RowKit.intOf (g 12)).toNat) ?_ (fun g2 qj hI => ?_)
 replace ae := ((ae.ai U1).ai U2).ai U3
 replace af := U3.ag (U2.ag (U1.ag af))
 replace kM := kM.ai U3
 replace iM := iM.ai U3
 replace aI := U3.ag aI
 replace ax := U3.ag ax
 replace hF := hF.go0 U3
 exact ⟨0, s, Gs.qp, bp, A, n, cp, (by rfl), Nat.zero_le _, rfl, hS, (.inl rfl), (fun k hk => .inl hk), nf1, nf2, ng1, ng2, aI, af, ae, aS, ax, ah, kM, iM, hF⟩
 replace kM := kM.ai U3
 replace iM := iM.ai U3
 replace aI := U3.ag aI
 replace ax := U3.ag ax
 replace hF := hF.go0 U3
 obtain ⟨k, s1, o1, bp1, A1, n1, cp1, g12, hk, hinv, hS1, hbp, hov, nf1, nf2, ng1, ng2, aI, nR, jv, aS, ax, ah, kM, iM, hF⟩ := hI
 rw [g12]
 refine ay (lss _ _ _ _) (fun h4 => ?_) (fun h4 => ?_)
 refine aH ?_
 refine pK Gs.AP (by kernel_rfl) (by kernel_rfl) kM (by rfl) (by omega) (by omega) (fun x5 hx5 => ?_)
 simp only [Int.toNat_natCast] at hx5
 refine Z.n ((Gs.fe Gs.um).toArray) (fun b6 w6 e6 nY _ U6 => ?_)
 have aew : bs ≠ b6 := by have := au aI; omega
 have acC : bp1 ≠ b6 := by have := au nR; omega
 have Ug := jv.apart e6
 have Lc : b3 ≠ b6 := by have := au aS; omega
 have Ce : b2 ≠ b6 := by have := au ax; omega
 have FW : b1 ≠ b6 := by have := au ah; omega
 have acD := kM.apart e6
 have Ib := iM.apart e6
 have wY : w.heap.size ≤ b6 := by have := hF.size; omega
 refine Z.t 7 ((Gs.fe x5).toArray) (by (simp [Value.cells, Value.oneCell', Gs.cv, Gs.fv, Gs.ie, Gs.pe, Gs.oe, Gs.bT, Gs.fe, Gs.fC, Gs.ce, Gs.dX, Gs.re]; done)) nY (fun w7 nY _ U7 => ?_)
 refine Z.b 7 ((Gs.fe x5).toArray) nY ?_
 replace jv := (jv.ai U6).aA U7 Ug
 replace iM := (iM.ai U6).aA U7 Ib
 replace aI := U7.ak (U6.ag aI) aew
 replace nR := U7.ak (U6.ag nR) acC
 replace hF := (hF.go0 U6).go1 U7 wY
 refine aJ (VY aI nR jv hS1 (by have := hF.size; omega) (iM.get hx5) (hfw.get hx5) (hfl.get hx5).1 (hfl.get hx5).2 (Gs.Uh ng1 hx5) (Gs.Uh ng2 hx5) (Gs.Uh ng3 hx5)) (fun v8 w8 D8 => ?_)
 have qK := jv
 have qF8 := hF.size
 have aoJ := hF.size
 obtain ⟨rfl, bp18, A18, n18, cp18, aI, dY, cO, hn18, hb18, ho18, U8⟩ := D8
 replace kM := (kM.ai U6).aA U7 acD
 have nf1b := agH (S' := w7) nf1 kM ho18
 have nf2b := Gs.akf nf2 kM.lt hb18
 have ng1b := Gs.RF (S' := w7) ng1 iM ho18
 have ng2b := Gs.amo ng2 iM hb18
 have hbp2 : bp18 = bp ∨ w.heap.size ≤ bp18 := hb18.elim (fun h => hbp.elim (fun h2 => .inl (h.trans h2)) (fun h2 => .inr (by omega))) (fun h => .inr (by omega))
 have hov2 : ∀ k, aC (.slice A18 n18 cp18) k → aC (.slice A n cp) k ∨ w.heap.size ≤ k := fun k hk => (ho18 k hk).elim (hov k) (fun h => .inr (by omega))
 have hS2 : Gs.Sw n18 (Gs.gB s1 x5.m).1 := hn18 ▸ hS1.field (Gs.rZ.of (hfw.get hx5).2.2.2.2)
 replace aS := U7.ak (U6.ag aS) Lc
 replace aS := U8.get aS (fun hs => by rcases hs with (hs | hs) | hs <;> first | (first | exact Own.aP qK aS (by decide) _ hs rfl | (have := Own.ge qK hs; omega)) | (exact absurd hs (by first | omega | exact fE (by assumption) (by assumption) (by decide))))
 replace ax := U7.ak (U6.ag ax) Ce
 replace ax := U8.get ax (fun hs => by rcases hs with (hs | hs) | hs <;> first | (first | exact Own.aP qK ax (by decide) _ hs rfl | (have := Own.ge qK hs; omega)) | (exact absurd hs (by first | omega | exact fE (by assumption) (by assumption) (by decide))))
 replace ah := U7.ak (U6.ag ah) FW
 replace ah := U8.get ah (fun hs => by rcases hs with (hs | hs) | hs <;> first | (first | exact Own.aP qK ah (by decide) _ hs rfl | (have := Own.ge qK hs; omega)) | (exact absurd hs (by first | omega | exact fE (by assumption) (by assumption) (by decide))))
 replace kM := kM.eH U8 (nf1.elim .inl fun h0 => nf2.elim .inl fun h1 => nf3.elim .inl fun h2 => .inr fun k hk hs => by rcases hs with (hs | hs) | hs <;> first | exact h0 k hk hs | exact h1 k hk hs | exact h2 k hk hs)
 replace iM := iM.eH U8 (ng1.elim .inl fun h0 => ng2.elim .inl fun h1 => ng3.elim .inl fun h2 => .inr fun k hk hs => by rcases hs with (hs | hs) | hs <;> first | exact h0 k hk hs | exact h1 k hk hs | exact h2 k hk hs)
 replace hF := hF.go U8 (fun i hi hs => Or.elim hs (fun hs => Or.elim hs (fun hs => Or.elim (hov i hs) (fun h => .inl (.inl h)) (fun h => absurd hi (by omega))) (fun hs => Or.elim hbp (fun h => .inl (.inr (Eq.trans hs h))) (fun h => absurd hi (by have e : i = bp1 := hs; omega)))) (fun hs => .inr hs))
 clear qK
 refine Z.n ((Gs.re Gs.qp).toArray) (fun b9 w9 e9 jy _ U9 => ?_)
 have CP : b3 ≠ b9 := by have := au aS; omega
 have BO : b2 ≠ b9 := by have := au ax; omega
 have Ld : b1 ≠ b9 := by have := au ah; omega
 have IJ := kM.apart e9
 have zS := iM.apart e9
 have Gp : bs ≠ b9 := by have := au aI; omega
 have Bh : bp18 ≠ b9 := by have := au dY; omega
 have xu := cO.apart e9
 have qc : w.heap.size ≤ b9 := by have := hF.size; omega
 refine Z.t 4 ((Gs.re (Gs.gB s1 x5.m).2).toArray) (by (simp [Value.cells, Value.oneCell', Gs.cv, Gs.fv, Gs.ie, Gs.pe, Gs.oe, Gs.bT, Gs.fe, Gs.fC, Gs.ce, Gs.dX, Gs.re]; done)) jy (fun w10 jy _ aT => ?_)
 refine Z.f 3 ?_
 refine Z.l jy ?_
 refine ay (kL _ _ _ _ _) (fun h11 => ?_) (fun h11 => ?_)
 refine aH ?_
 refine Z.f 3 ?_
 refine Z.l jy ?_
 refine aj (bz (l := [(0, 1), (1, 1), (2, 1), (3, 1)]) (z := #[Z.u 0, .bool false, .bool false, Z.i 0]) (cs := Gs.re (Gs.wV (Gs.gB s1 x5.m).2.er)) (by kernel_rfl) (by rfl)) ?_
 replace ax := aT.ak (U9.ag ax) BO
 refine Z.t 4 ((Gs.re (Gs.wV (Gs.gB s1 x5.m).2.er)).toArray) (by (simp [Value.cells, Value.oneCell', Gs.cv, Gs.fv, Gs.ie, Gs.pe, Gs.oe, Gs.bT, Gs.fe, Gs.fC, Gs.ce, Gs.dX, Gs.re]; done)) ax (fun uM ax _ dI => ?_)
 replace cO := (cO.ai U9).aA aT xu
 replace cO := cO.aA dI (Own.aP cO (by assumption) (by decide))
 replace dY := aT.ak (U9.ag dY) Bh
 replace dY := dI.ak dY (by exact fE (by assumption) (by assumption) (by decide))
 refine Z.a 4 ax ?_
 replace aI := dI.ak (aT.ak (U9.ag aI) Gp) jg
 replace hF := ((hF.go0 U9).go1 aT qc).go1 dI fF
 rw [Gs.VZ hinv (Gs.EY hx5) (by assumption)]; exact ⟨_, rfl, rfl, bp18, A18, n18, cp18, aI, dY, cO, hS2.2.1, hbp2, hov2, hF⟩
 refine aB ?_
 refine bH (fun g w' => ((Gs.gB s1 x5.m).2.er = 0) ∧ (Z.h w' bs #[Z.i (Gs.gB s1 x5.m).1.r0, Z.i (Gs.gB s1 x5.m).1.c0, Z.i (Gs.gB s1 x5.m).1.r1, Z.i (Gs.gB s1 x5.m).1.c1, Z.i (Gs.gB s1 x5.m).1.wh, Z.p bp18] 89) ∧ (Z.h w' bp18 #[Z.i (Gs.gB s1 x5.m).1.r, Z.i (Gs.gB s1 x5.m).1.c, .slice A18 n18 cp18, Z.i (Gs.gB s1 x5.m).1.cur] 91) ∧ (Own B0 w' 37 5 (.slice A18 n18 cp18) (rows Gs.cv (Gs.gB s1 x5.m).1.cs)) ∧ (Z.h w' b3 ((Gs.re ⟨if o1.rep = 0 then (Gs.gB s1 x5.m).2.rep else o1.rep, o1.rs, o1.al, o1.er⟩).toArray) 66) ∧ (Z.h w' b9 ((Gs.re (Gs.gB s1 x5.m).2).toArray) 66) ∧ (Z.h w' b2 ((Gs.re Gs.qp).toArray) 66) ∧ (Z.h w' b1 ((Gs.ce x fA fs.length fc).toArray) 124) ∧ (Rd w' fA (rows Gs.fe fs)) ∧ (Gs.iw w' fs) ∧ (az (fun k => (aC (.slice A n cp) k ∨ k = bp) ∨ k = bs) w w')) (fun J3 hJ3 => ?_) (fun gJ3 Ha hI => ?_)
 refine Z.f 0 ?_
 replace aS := aT.ak (U9.ag aS) CP
 refine Z.l aS ?_
 refine ay (dC _ _ _ _ _) (fun h15 => ?_) (fun h15 => ?_)
 refine aH ?_
 refine Z.f 0 ?_
 refine Z.l jy ?_
 refine Z.f 0 ?_
 refine Z.s aS (fun w16 aS _ bZ => ?_)
 replace cO := (cO.ai U9).aA aT xu
 replace cO := cO.aA bZ (Own.aP cO (by assumption) (by decide))
 replace dY := aT.ak (U9.ag dY) Bh
 replace dY := bZ.ak dY (by exact fE (by assumption) (by assumption) (by decide))
 refine hJ3 _ _ ?_
 replace kM := ((kM.ai U9).aA aT IJ).aA bZ rF
 replace iM := ((iM.ai U9).aA aT zS).aA bZ rG
 replace ax := bZ.ak (aT.ak (U9.ag ax) BO) pW
 replace ah := bZ.ak (aT.ak (U9.ag ah) Ld) lM
 replace aI := bZ.ak (aT.ak (U9.ag aI) Gp) pV
 replace hF := ((hF.go0 U9).go1 aT qc).go1 bZ jk
 replace jy := bZ.ak jy (Ne.symm CP)
 exact ⟨(Classical.not_not.1 (by assumption)), aI, dY, cO, (by (rw [if_pos (by assumption)]; exact aS)), jy, ax, ah, kM, iM, hF⟩
 refine aB ?_
 refine hJ3 _ _ ?_
 replace kM := (kM.ai U9).aA aT IJ
 replace iM := (iM.ai U9).aA aT zS
 replace cO := (cO.ai U9).aA aT xu
 replace ax := aT.ak (U9.ag ax) BO
 replace ah := aT.ak (U9.ag ah) Ld
 replace aI := aT.ak (U9.ag aI) Gp
 replace dY := aT.ak (U9.ag dY) Bh
 replace hF := (hF.go0 U9).go1 aT qc
 exact ⟨(Classical.not_not.1 (by assumption)), aI, dY, cO, (by (rw [if_neg (by assumption)]; exact aS)), jy, ax, ah, kM, iM, hF⟩
 replace kM := (kM.ai U9).aA aT IJ
 replace iM := (iM.ai U9).aA aT zS
 replace cO := (cO.ai U9).aA aT xu
 replace aS := aT.ak (U9.ag aS) CP
 replace ax := aT.ak (U9.ag ax) BO
 replace ah := aT.ak (U9.ag ah) Ld
 replace aI := aT.ak (U9.ag aI) Gp
 replace dY := aT.ak (U9.ag dY) Bh
 replace hF := (hF.go0 U9).go1 aT qc
 obtain ⟨he18, aI, dY, cO, aS, jy, ax, ah, kM, iM, hF⟩ := hI
 refine dQ (S := (· = b3)) (fun uo bY => ?_)
 refine Z.g 1 ?_
 replace aS := bY.ag aS
 refine aau (fun w' hw' => by have aS := (Fr.jA hw').ag aS; exact (kK (by kernel_rfl) aS (by rfl))) (fun h18 => ?_) (fun h18 => ?_)
 refine jr (jr (jS ?_))
 refine Z.g 2 ?_
 refine aau (fun w' hw' => by have aS := (Fr.jA hw').ag aS; exact (kK (by kernel_rfl) aS (by rfl))) (fun h19 => ?_) (fun h19 => ?_)
 refine jr (jr (jS ?_))
 refine Z.g 1 ?_
 refine aF (fun wE dJ => ?_)
 refine jC ?_
 replace aS := dJ.ag aS
 refine Z.s aS (fun BD aS _ dL => ?_)
 replace cO := (cO.ai bY).ai dJ
 replace cO := cO.aA dL (Own.aP cO (by assumption) (by decide))
 replace dY := dJ.ag (bY.ag dY)
 replace dY := dL.ak dY (by exact fE (by assumption) (by assumption) (by decide))
 refine ⟨dL, ?_⟩
 refine Z.g 2 ?_
 refine aF (fun ED fB => ?_)
 replace aS := fB.ag aS
 refine Z.s aS (fun AB aS _ eF => ?_)
 replace cO := cO.ai fB
 replace cO := cO.aA eF (Own.aP cO (by assumption) (by decide))
 replace dY := fB.ag dY
 replace dY := eF.ak dY (by exact fE (by assumption) (by assumption) (by decide))
 refine aF (fun Po jm => ?_)
 refine aj (dF _ (by omega)) ?_
 replace kM := (((((kM.ai bY).ai dJ).aA dL rF).ai fB).aA eF rF).ai jm
 replace iM := (((((iM.ai bY).ai dJ).aA dL rG).ai fB).aA eF rG).ai jm
 replace aI := jm.ag (eF.ak (fB.ag (dL.ak (dJ.ag (bY.ag aI)) pV)) pV)
 replace ax := jm.ag (eF.ak (fB.ag (dL.ak (dJ.ag (bY.ag ax)) pW)) pW)
 replace ah := jm.ag (eF.ak (fB.ag (dL.ak (dJ.ag (bY.ag ah)) lM)) lM)
 replace hF := (((((hF.go0 bY).go0 dJ).go1 dL jk).go0 fB).go1 eF jk).go0 jm
 replace cO := cO.ai jm
 replace dY := jm.ag dY
 replace aS := jm.ag aS
 exact ⟨⟨k + 1, (Gs.gB s1 x5.m).1, (Gs.mrg o1 (Gs.gB s1 x5.m).2), bp18, A18, n18, cp18, (by rfl), by omega, (Gs.yD hinv (Gs.EY hx5) he18), hS2, hbp2, hov2, nf1b, nf2b, ng1b, ng2b, aI, dY, cO, (by (rw [Gs.akg (by assumption) (by assumption)]; exact aS)), ax, ah, kM, iM, hF⟩, cnt_lt (by rfl) rfl (by omega)⟩
 refine bF ?_
 refine Z.g 2 ?_
 refine bF ?_
 replace jy := bY.ag jy
 refine bi (fun w' hw' => by have jy := hw'.ak jy (Ne.symm CP); exact (kK (by kernel_rfl) jy (by rfl))) ?_
 refine fP ?_
 refine Z.g 1 ?_
 refine aF (fun Hy iD => ?_)
 refine jC ?_
 replace aS := iD.ag aS
 refine Z.s aS (fun Pq aS _ jM => ?_)
 replace cO := (cO.ai bY).ai iD
 replace cO := cO.aA jM (Own.aP cO (by assumption) (by decide))
 replace dY := iD.ag (bY.ag dY)
 replace dY := jM.ak dY (by exact fE (by assumption) (by assumption) (by decide))
 refine ⟨jM, ?_⟩
 refine Z.g 2 ?_
 refine aF (fun Ic ig => ?_)
 replace aS := ig.ag aS
 refine Z.s aS (fun PD aS _ jJ => ?_)
 replace cO := cO.ai ig
 replace cO := cO.aA jJ (Own.aP cO (by assumption) (by decide))
 replace dY := ig.ag dY
 replace dY := jJ.ak dY (by exact fE (by assumption) (by assumption) (by decide))
 refine aF (fun Px jc => ?_)
 refine aj (dF _ (by omega)) ?_
 replace kM := (((((kM.ai bY).ai iD).aA jM rF).ai ig).aA jJ rF).ai jc
 replace iM := (((((iM.ai bY).ai iD).aA jM rG).ai ig).aA jJ rG).ai jc
 replace aI := jc.ag (jJ.ak (ig.ag (jM.ak (iD.ag (bY.ag aI)) pV)) pV)
 replace ax := jc.ag (jJ.ak (ig.ag (jM.ak (iD.ag (bY.ag ax)) pW)) pW)
 replace ah := jc.ag (jJ.ak (ig.ag (jM.ak (iD.ag (bY.ag ah)) lM)) lM)
 replace hF := (((((hF.go0 bY).go0 iD).go1 jM jk).go0 ig).go1 jJ jk).go0 jc
 replace cO := cO.ai jc
 replace dY := jc.ag dY
 replace aS := jc.ag aS
 exact ⟨⟨k + 1, (Gs.gB s1 x5.m).1, (Gs.mrg o1 (Gs.gB s1 x5.m).2), bp18, A18, n18, cp18, (by rfl), by omega, (Gs.yD hinv (Gs.EY hx5) he18), hS2, hbp2, hov2, nf1b, nf2b, ng1b, ng2b, aI, dY, cO, (by (rw [Gs.akh (by assumption) (by assumption)]; exact aS)), ax, ah, kM, iM, hF⟩, cnt_lt (by rfl) rfl (by omega)⟩
 refine bF ?_
 refine Z.g 1 ?_
 refine bF ?_
 replace jy := bY.ag jy
 refine bi (fun w' hw' => by have jy := (Fr.jA hw').ag jy; exact (kK (by kernel_rfl) jy (by rfl))) ?_
 refine fP ?_
 refine Z.g 2 ?_
 refine aau (fun w' hw' => by have aS := (Fr.jA hw').ag aS; exact (kK (by kernel_rfl) aS (by rfl))) (fun h30 => ?_) (fun h30 => ?_)
 refine jr (jr (jS ?_))
 refine Z.g 1 ?_
 refine aF (fun w31 o6 => ?_)
 refine jC ?_
 replace aS := o6.ag aS
 refine Z.s aS (fun w32 aS _ kw => ?_)
 replace cO := (cO.ai bY).ai o6
 replace cO := cO.aA kw (Own.aP cO (by assumption) (by decide))
 replace dY := o6.ag (bY.ag dY)
 replace dY := kw.ak dY (by exact fE (by assumption) (by assumption) (by decide))
 refine ⟨kw, ?_⟩
 refine Z.g 2 ?_
 refine aF (fun w33 nX => ?_)
 replace aS := nX.ag aS
 refine Z.s aS (fun Rl aS _ lN => ?_)
 replace cO := cO.ai nX
 replace cO := cO.aA lN (Own.aP cO (by assumption) (by decide))
 replace dY := nX.ag dY
 replace dY := lN.ak dY (by exact fE (by assumption) (by assumption) (by decide))
 refine aF (fun w35 pF => ?_)
 refine aj (dF _ (by omega)) ?_
 replace kM := (((((kM.ai bY).ai o6).aA kw rF).ai nX).aA lN rF).ai pF
 replace iM := (((((iM.ai bY).ai o6).aA kw rG).ai nX).aA lN rG).ai pF
 replace aI := pF.ag (lN.ak (nX.ag (kw.ak (o6.ag (bY.ag aI)) pV)) pV)
 replace ax := pF.ag (lN.ak (nX.ag (kw.ak (o6.ag (bY.ag ax)) pW)) pW)
 replace ah := pF.ag (lN.ak (nX.ag (kw.ak (o6.ag (bY.ag ah)) lM)) lM)
 replace hF := (((((hF.go0 bY).go0 o6).go1 kw jk).go0 nX).go1 lN jk).go0 pF
 replace cO := cO.ai pF
 replace dY := pF.ag dY
 replace aS := pF.ag aS
 exact ⟨⟨k + 1, (Gs.gB s1 x5.m).1, (Gs.mrg o1 (Gs.gB s1 x5.m).2), bp18, A18, n18, cp18, (by rfl), by omega, (Gs.yD hinv (Gs.EY hx5) he18), hS2, hbp2, hov2, nf1b, nf2b, ng1b, ng2b, aI, dY, cO, (by (rw [Gs.akj (by assumption) (by assumption)]; exact aS)), ax, ah, kM, iM, hF⟩, cnt_lt (by rfl) rfl (by omega)⟩
 refine bF ?_
 refine Z.g 2 ?_
 refine bF ?_
 refine bi (fun w' hw' => by have jy := hw'.ak jy (Ne.symm CP); exact (kK (by kernel_rfl) jy (by rfl))) ?_
 refine fP ?_
 refine Z.g 1 ?_
 refine aF (fun w36 qN => ?_)
 refine jC ?_
 replace aS := qN.ag aS
 refine Z.s aS (fun w37 aS _ o9 => ?_)
 replace cO := (cO.ai bY).ai qN
 replace cO := cO.aA o9 (Own.aP cO (by assumption) (by decide))
 replace dY := qN.ag (bY.ag dY)
 replace dY := o9.ak dY (by exact fE (by assumption) (by assumption) (by decide))
 refine ⟨o9, ?_⟩
 refine Z.g 2 ?_
 refine aF (fun w38 wG => ?_)
 replace aS := wG.ag aS
 refine Z.s aS (fun w39 aS _ uO => ?_)
 replace cO := cO.ai wG
 replace cO := cO.aA uO (Own.aP cO (by assumption) (by decide))
 replace dY := wG.ag dY
 replace dY := uO.ak dY (by exact fE (by assumption) (by assumption) (by decide))
 refine aF (fun w40 pG => ?_)
 refine aj (dF _ (by omega)) ?_
 replace kM := (((((kM.ai bY).ai qN).aA o9 rF).ai wG).aA uO rF).ai pG
 replace iM := (((((iM.ai bY).ai qN).aA o9 rG).ai wG).aA uO rG).ai pG
 replace aI := pG.ag (uO.ak (wG.ag (o9.ak (qN.ag (bY.ag aI)) pV)) pV)
 replace ax := pG.ag (uO.ak (wG.ag (o9.ak (qN.ag (bY.ag ax)) pW)) pW)
 replace ah := pG.ag (uO.ak (wG.ag (o9.ak (qN.ag (bY.ag ah)) lM)) lM)
 replace hF := (((((hF.go0 bY).go0 qN).go1 o9 jk).go0 wG).go1 uO jk).go0 pG
 replace cO := cO.ai pG
 replace dY := pG.ag dY
 replace aS := pG.ag aS
 exact ⟨⟨k + 1, (Gs.gB s1 x5.m).1, (Gs.mrg o1 (Gs.gB s1 x5.m).2), bp18, A18, n18, cp18, (by rfl), by omega, (Gs.yD hinv (Gs.EY hx5) he18), hS2, hbp2, hov2, nf1b, nf2b, ng1b, ng2b, aI, dY, cO, (by (rw [Gs.akk (by assumption) (by assumption)]; exact aS)), ax, ah, kM, iM, hF⟩, cnt_lt (by rfl) rfl (by omega)⟩
 refine aB ?_
 refine hJ1 _ _ ?_
 exact ⟨_, _, _, _, _, _, (Gs.V3 hinv (by omega)), hS1, hbp, hov, aI, nR, jv, aS, ax, ah, hF⟩
 replace aI := U3.ag aI
 replace ah := U3.ag ah
 replace ax := U3.ag ax
 replace hF := hF.go0 U3
 obtain ⟨s1, o1, bp1, A1, n1, cp1, hfin, hS1, hbp, hov, aI, nR, jv, aS, ax, ah, hF⟩ := hI
 refine Z.f 3 ?_
 refine Z.l ah ?_
 refine ay (kL _ _ _ _ _) (fun h41 => ?_) (fun h41 => ?_)
 refine aH ?_
 refine Z.f 3 ?_
 refine Z.l ah ?_
 refine aj (bz (l := [(0, 1), (1, 1), (2, 1), (3, 1)]) (z := #[Z.u 0, .bool false, .bool false, Z.i 0]) (cs := Gs.re (Gs.wV x.e)) (by kernel_rfl) (by rfl)) ?_
 refine Z.t 4 ((Gs.re (Gs.wV x.e)).toArray) (by (simp [Value.cells, Value.oneCell', Gs.cv, Gs.fv, Gs.ie, Gs.pe, Gs.oe, Gs.bT, Gs.fe, Gs.fC, Gs.ce, Gs.dX, Gs.re]; done)) ax (fun w43 ax _ xI => ?_)
 replace jv := jv.aA xI (Own.aP jv (by assumption) (by decide))
 replace nR := xI.ak nR (by exact fE (by assumption) (by assumption) (by decide))
 refine Z.a 4 ax ?_
 replace aI := xI.ak aI jg
 replace hF := hF.go1 xI fF
 rw [hfin]; (rw [if_neg (by assumption)]; exact ⟨_, rfl, rfl, bp1, A1, n1, cp1, aI, nR, jv, hS1.2.1, hbp, hov, hF⟩)
 refine aB ?_
 refine Z.b 4 ((Gs.re o1).toArray) aS ?_
 refine Z.t 4 ((Gs.re o1).toArray) (by (simp [Value.cells, Value.oneCell', Gs.cv, Gs.fv, Gs.ie, Gs.pe, Gs.oe, Gs.bT, Gs.fe, Gs.fC, Gs.ce, Gs.dX, Gs.re]; done)) ax (fun w45 ax _ CQ => ?_)
 replace jv := jv.aA CQ (Own.aP jv (by assumption) (by decide))
 replace nR := CQ.ak nR (by exact fE (by assumption) (by assumption) (by decide))
 refine Z.a 4 ax ?_
 replace aI := CQ.ak aI jg
 replace hF := hF.go1 CQ fF
 rw [hfin]; (rw [if_pos (Classical.not_not.1 (by assumption))]; exact ⟨_, rfl, rfl, bp1, A1, n1, cp1, aI, nR, jv, hS1.2.1, hbp, hov, hF⟩)
theorem acE {s : Gs.jb} {A : Option Addr} {n cp bp bs B0 : Nat} {w : World} (aI : Z.h w bs #[Z.i s.r0, Z.i s.c0, Z.i s.r1, Z.i s.c1, Z.i s.wh, Z.p bp] 89) (af : Z.h w bp #[Z.i s.r, Z.i s.c, .slice A n cp, Z.i s.cur] 91) (ae : Own B0 w 37 5 (.slice A n cp) (rows Gs.cv s.cs)) (hS : Gs.Sw n s) (hB0 : B0 ≤ w.heap.size) {x : Gs.o8} {fs : List Gs.Fd} {fA : Option Addr} {fc : Nat} (kM : Rd w fA (rows Gs.fe fs)) (iM : Gs.iw w fs) (hfw : Gs.BI fs) (hfl : Gs.Xy fs) (hfn : fs.length ≤ 100000) (nf1 : rows Gs.fe fs = [] ∨ ∀ k, fO fA k → ¬ aC (.slice A n cp) k) (nf2 : rows Gs.fe fs = [] ∨ ∀ k, fO fA k → k ≠ bp) (nf3 : rows Gs.fe fs = [] ∨ ∀ k, fO fA k → k ≠ bs) (ng1 : fs = [] ∨ ∀ k, Gs.kZ fs k → ¬ aC (.slice A n cp) k) (ng2 : fs = [] ∨ ∀ k, Gs.kZ fs k → k ≠ bp) (ng3 : fs = [] ∨ ∀ k, Gs.kZ fs k → k ≠ bs) (hk : x.k = 243) :
    oX 65 #[Z.p bs, .agg (Gs.ce x fA fs.length fc).toArray] w (Xx (Gs.lm x.e (Gs.qO fs) s Gs.qp).1 (Gs.lm x.e (Gs.qO fs) s Gs.qp).2 A n cp bp bs B0 w) := by
 refine Xb.calls ?_
 unfold Xb
 have hW := hS.2
 obtain ⟨hn, hcw, hcu, hp, hN, hb⟩ := id hW
 have hF : az (fun k => (aC (.slice A n cp) k ∨ k = bp) ∨ k = bs) w w := Fr.refl _ _ _
 refine Z.x ((Gs.ce x fA fs.length fc).toArray) (fun b1 w1 e1 ah _ U1 => ?_)
 refine Z.n ((Gs.re Gs.qp).toArray) (fun b2 w2 e2 ax _ U2 => ?_)
 replace aI := U1.ag aI
 have jg : bs ≠ b2 := by have := au aI; omega
 replace af := U1.ag af
 have fH : bp ≠ b2 := by have := au af; omega
 replace hF := hF.go0 U1
 have fF : w.heap.size ≤ b2 := by have := hF.size; omega
 refine Z.f 0 ?_
 replace ah := U2.ag ah
 refine Z.l ah ?_
 refine nM (dC _ _ _ _ _) (by omega) ?_
 refine aB ?_
 refine nM (dC _ _ _ _ _) (by omega) ?_
 refine aB ?_
 refine nM (dC _ _ _ _ _) (by omega) ?_
 refine aB ?_
 refine nM (dC _ _ _ _ _) (by omega) ?_
 refine aB ?_
 refine bH (fun g w' => (g 43 = .bool false) ∧ (Z.h w' bs #[Z.i s.r0, Z.i s.c0, Z.i s.r1, Z.i s.c1, Z.i s.wh, Z.p bp] 89) ∧ (Z.h w' bp #[Z.i s.r, Z.i s.c, .slice A n cp, Z.i s.cur] 91) ∧ (Own B0 w' 37 5 (.slice A n cp) (rows Gs.cv s.cs)) ∧ (Rd w' fA (rows Gs.fe fs)) ∧ (Gs.iw w' fs) ∧ (Z.h w' b1 ((Gs.ce x fA fs.length fc).toArray) 124) ∧ (Z.h w' b2 ((Gs.re Gs.qp).toArray) 66) ∧ (az (fun k => (aC (.slice A n cp) k ∨ k = bp) ∨ k = bs) w w')) (fun J1 hJ1 => ?_) (fun gJ1 jX hI => ?_)
 refine nM (dC _ _ _ _ _) (by omega) ?_
 refine aB ?_
 refine nM (dC _ _ _ _ _) (by omega) ?_
 refine aB ?_
 refine nM (dC _ _ _ _ _) (by omega) ?_
 refine hJ1 _ _ ?_
 replace ae := (ae.ai U1).ai U2
 replace kM := (kM.ai U1).ai U2
 replace iM := (iM.ai U1).ai U2
 replace aI := U2.ag aI
 replace af := U2.ag af
 replace hF := hF.go0 U2
 exact ⟨(by rfl), aI, af, ae, kM, iM, ah, ax, hF⟩
 replace ae := (ae.ai U1).ai U2
 replace kM := (kM.ai U1).ai U2
 replace iM := (iM.ai U1).ai U2
 replace aI := U2.ag aI
 replace af := U2.ag af
 replace hF := hF.go0 U2
 obtain ⟨g43, aI, af, ae, kM, iM, ah, ax, hF⟩ := hI
 rw [g43]
 refine aB ?_
 refine zx (dC _ _ _ _ _) (hk) ?_
 refine aH ?_
 refine Z.b 5 ((Gs.ce x fA fs.length fc).toArray) ah ?_
 refine aJ (Uf aI af ae hS (by have := hF.size; omega) kM iM hfw hfl hfn nf1 nf2 nf3 ng1 ng2 ng3) (fun v3 w3 D3 => ?_)
 have aK := ae
 have qF3 := hF.size
 have aoK := hF.size
 obtain ⟨rfl, bp54, A54, n54, cp54, aI, CS, wu, hn54, hb54, ho54, U3⟩ := D3
 replace ax := U3.get ax (fun hs => by rcases hs with (hs | hs) | hs <;> first | (first | exact Own.aP aK ax (by decide) _ hs rfl | (have := Own.ge aK hs; omega)) | (exact absurd hs (Ne.symm fH)) | (exact absurd hs (Ne.symm jg)))
 replace hF := hF.go U3 (fun i hi hs => by exact hs)
 clear aK
 refine Z.t 4 ((Gs.re (Gs.lm x.e (Gs.qO fs) s Gs.qp).2).toArray) (by (simp [Value.cells, Value.oneCell', Gs.cv, Gs.fv, Gs.ie, Gs.pe, Gs.oe, Gs.bT, Gs.fe, Gs.fC, Gs.ce, Gs.dX, Gs.re]; done)) ax (fun w4 ax _ U4 => ?_)
 replace wu := wu.aA U4 (Own.aP wu (by assumption) (by decide))
 replace CS := U4.ak CS (by exact fE (by assumption) (by assumption) (by decide))
 refine Z.a 4 ax ?_
 replace aI := U4.ak aI jg
 replace hF := hF.go1 U4 fF
 exact ⟨_, rfl, rfl, bp54, A54, n54, cp54, aI, CS, wu, hn54, hb54.imp id (fun h => by omega), (fun k hk => (ho54 k hk).imp id (fun h => by omega)), hF⟩
theorem acF {s : Gs.jb} {A : Option Addr} {n cp bp bs B0 : Nat} {w : World} (aI : Z.h w bs #[Z.i s.r0, Z.i s.c0, Z.i s.r1, Z.i s.c1, Z.i s.wh, Z.p bp] 89) (af : Z.h w bp #[Z.i s.r, Z.i s.c, .slice A n cp, Z.i s.cur] 91) (ae : Own B0 w 37 5 (.slice A n cp) (rows Gs.cv s.cs)) (hS : Gs.Sw n s) (hB0 : B0 ≤ w.heap.size) {x : Gs.o8} {fs : List Gs.Fd} {fA : Option Addr} {fc : Nat} (kM : Rd w fA (rows Gs.fe fs)) (iM : Gs.iw w fs) (hfw : Gs.BI fs) (hfl : Gs.Xy fs) (hfn : fs.length ≤ 100000) (nf1 : rows Gs.fe fs = [] ∨ ∀ k, fO fA k → ¬ aC (.slice A n cp) k) (nf2 : rows Gs.fe fs = [] ∨ ∀ k, fO fA k → k ≠ bp) (nf3 : rows Gs.fe fs = [] ∨ ∀ k, fO fA k → k ≠ bs) (ng1 : fs = [] ∨ ∀ k, Gs.kZ fs k → ¬ aC (.slice A n cp) k) (ng2 : fs = [] ∨ ∀ k, Gs.kZ fs k → k ≠ bp) (ng3 : fs = [] ∨ ∀ k, Gs.kZ fs k → k ≠ bs) (gZ : Gs.iw w [⟨0, 0, x⟩]) (hwx : Gs.AA x) (hlx : Gs.EU x.os ∧ x.os.length ≤ 100000) (nax1 : [(⟨0, 0, x⟩ : Gs.Fd)] = [] ∨ ∀ k, Gs.kZ [⟨0, 0, x⟩] k → ¬ aC (.slice A n cp) k) (nax2 : [(⟨0, 0, x⟩ : Gs.Fd)] = [] ∨ ∀ k, Gs.kZ [⟨0, 0, x⟩] k → k ≠ bp) (nax3 : [(⟨0, 0, x⟩ : Gs.Fd)] = [] ∨ ∀ k, Gs.kZ [⟨0, 0, x⟩] k → k ≠ bs)  :
    oX 65 #[Z.p bs, .agg (Gs.ce x fA fs.length fc).toArray] w (Xx (Gs.Ae s ⟨x.m, Gs.qO fs⟩).1 (Gs.Ae s ⟨x.m, Gs.qO fs⟩).2 A n cp bp bs B0 w) := by
 by_cases h : x.k = 243
 rw [Gs.amq (c := ⟨x.m, Gs.qO fs⟩) h]
 exact acE aI af ae hS hB0 kM iM hfw hfl hfn nf1 nf2 nf3 ng1 ng2 ng3 h
 rw [Gs.amr (c := ⟨x.m, Gs.qO fs⟩) h]
 exact PW aI af ae hS hB0 gZ hwx hlx nax1 nax2 nax3 h
theorem acG {s : Gs.jb} {A : Option Addr} {n cp bp bs B0 : Nat} {w : World} (aI : Z.h w bs #[Z.i s.r0, Z.i s.c0, Z.i s.r1, Z.i s.c1, Z.i s.wh, Z.p bp] 89) (af : Z.h w bp #[Z.i s.r, Z.i s.c, .slice A n cp, Z.i s.cur] 91) (ae : Own B0 w 37 5 (.slice A n cp) (rows Gs.cv s.cs)) (hS : Gs.Sw n s) (hB0 : B0 ≤ w.heap.size) {bA : Option Addr} {bn bc : Nat} {b : List Int} (rdb : Rd w bA (vals .u8 b)) (hbn : bn = b.length) (hbc : bn ≤ bc) (hbs : Bs b) (hbl : bn ≤ 100000) (nab1 : vals .u8 b = [] ∨ ∀ k, fO bA k → ¬ aC (.slice A n cp) k) (nab2 : vals .u8 b = [] ∨ ∀ k, fO bA k → k ≠ bp) (nab3 : vals .u8 b = [] ∨ ∀ k, fO bA k → k ≠ bs)  :
    oX 27 #[Z.p bs, .slice bA bn bc] w (Xx (Gs.CU s b).1 (Gs.CU s b).2 A n cp bp bs B0 w) := by
 refine F27.calls ?_
 unfold F27
 have hW := hS.2
 obtain ⟨hn, hcw, hcu, hp, hN, hb⟩ := id hW
 have hF : az (fun k => (aC (.slice A n cp) k ∨ k = bp) ∨ k = bs) w w := Fr.refl _ _ _
 refine Z.n ((Gs.re Gs.qp).toArray) (fun b1 w1 e1 ah _ U1 => ?_)
 have xB : bs ≠ b1 := by have := au aI; omega
 have jW : bp ≠ b1 := by have := au af; omega
 have gV := ae.apart e1
 have bU : w.heap.size ≤ b1 := by have := hF.size; omega
 replace rdb := rdb.ai U1
 refine aJ (JG b.length rdb hbn hbc hbs hbl (by omega)) (fun v2 w2 D2 => ?_)
 replace hF := hF.go0 U1
 have qF9 := hF.size
 obtain ⟨x9, fs9, fA9, fc9, er9, rfl, hpn9, aav, aaw, aax, gX9, gA9, gG9, hw9, hfw9, hk9, U2⟩ := D2
 replace aI := U1.ag aI
 have aay := gX9.ne (au aI)
 replace af := U1.ag af
 have aaz := gX9.ne (au af)
 replace ae := ae.ai U1
 have QQ : _ ∨ ∀ k, _ → ¬ aC _ k := gX9.imp_right fun h k hk hs => by have := h k hk; have := (Own.ge ae hs).2; omega
 have aaA := gA9.ne (au aI)
 have aaB := gA9.ne (au af)
 have QR : _ ∨ ∀ k, _ → ¬ aC _ k := gA9.imp_right fun h k hk hs => by have := h k hk; have := (Own.ge ae hs).2; omega
 have aaC := gG9.ne (au aI)
 have aaD := gG9.ne (au af)
 have QS : _ ∨ ∀ k, _ → ¬ aC _ k := gG9.imp_right fun h k hk hs => by have := h k hk; have := (Own.ge ae hs).2; omega
 have hpk := Gs.aex hpn9 (by omega)
 have hpl := Gs.aey hpn9 (by omega)
 refine Z.e ?_
 refine Z.e ?_
 refine Z.n ((Gs.ce Gs.jL none 0 0).toArray) (fun b3 w3 e3 aS _ U3 => ?_)
 replace aI := U2.ag aI
 have pV : bs ≠ b3 := by have := au aI; omega
 replace af := U2.ag af
 have jO : bp ≠ b3 := by have := au af; omega
 replace ae := ae.ai U2
 have gU := ae.apart e3
 replace ah := U2.ag ah
 have lM : b1 ≠ b3 := by have := au ah; omega
 have aaE := aav.apart e3
 have aaF := aaw.apart e3
 have aaG := aax.apart e3
 replace hF := hF.go0 U2
 have jk : w.heap.size ≤ b3 := by have := hF.size; omega
 refine Z.t 5 ((Gs.ce x9 fA9 fs9.length fc9).toArray) (by (simp [Value.cells, Value.oneCell', Gs.cv, Gs.fv, Gs.ie, Gs.pe, Gs.oe, Gs.bT, Gs.fe, Gs.fC, Gs.ce, Gs.dX, Gs.re]; done)) aS (fun w4 aS _ U4 => ?_)
 refine ay (kL _ _ _ _ _) (fun h5 => ?_) (fun h5 => ?_)
 refine aH ?_
 refine aj (bz (l := [(0, 1), (1, 1), (2, 1), (3, 1)]) (z := #[Z.u 0, .bool false, .bool false, Z.i 0]) (cs := Gs.re (Gs.wV er9)) (by kernel_rfl) (by rfl)) ?_
 replace ah := U4.ak (U3.ag ah) lM
 refine Z.t 4 ((Gs.re (Gs.wV er9)).toArray) (by (simp [Value.cells, Value.oneCell', Gs.cv, Gs.fv, Gs.ie, Gs.pe, Gs.oe, Gs.bT, Gs.fe, Gs.fC, Gs.ce, Gs.dX, Gs.re]; done)) ah (fun w7 ah _ U7 => ?_)
 refine Z.a 4 ah ?_
 replace ae := ((ae.ai U3).aA U4 gU).aA U7 gV
 replace aI := U7.ak (U4.ak (U3.ag aI) pV) xB
 replace af := U7.ak (U4.ak (U3.ag af) jO) jW
 replace hF := ((hF.go0 U3).go1 U4 jk).go1 U7 bU
 rw [Gs.akl hpn9 (by assumption)]; exact ⟨_, rfl, rfl, bp, A, n, cp, aI, af, ae, hn, .inl rfl, (fun k hk => .inl hk), hF⟩
 refine aB ?_
 refine Z.b 5 ((Gs.ce x9 fA9 fs9.length fc9).toArray) aS ?_
 replace ae := (ae.ai U3).aA U4 gU
 replace aav := (aav.ai U3).aA U4 aaE
 replace aaw := (aaw.ai U3).aA U4 aaF
 replace aax := (aax.ai U3).aA U4 aaG
 replace aI := U4.ak (U3.ag aI) pV
 replace af := U4.ak (U3.ag af) jO
 replace hF := (hF.go0 U3).go1 U4 jk
 refine aJ (acF aI af ae hS (by have := hF.size; omega) aaw aax hfw9 hpk.2 hpl QR aaB aaA QS aaD aaC aav hw9 hpk.1 QQ aaz aay) (fun v9 w9 D9 => ?_)
 have aK := ae
 have qF9 := hF.size
 have aoJ := hF.size
 obtain ⟨rfl, bp18, A18, n18, cp18, aI, dY, cO, hn18, hb18, ho18, U9⟩ := D9
 replace ah := U4.ak (U3.ag ah) lM
 replace ah := U9.get ah (fun hs => by rcases hs with (hs | hs) | hs <;> first | (first | exact Own.aP aK ah (by decide) _ hs rfl | (have := Own.ge aK hs; omega)) | (exact absurd hs (Ne.symm jW)) | (exact absurd hs (Ne.symm xB)))
 replace hF := hF.go U9 (fun i hi hs => by exact hs)
 clear aK
 refine Z.t 4 ((Gs.re (Gs.Ae s ⟨x9.m, Gs.qO fs9⟩).2).toArray) (by (simp [Value.cells, Value.oneCell', Gs.cv, Gs.fv, Gs.ie, Gs.pe, Gs.oe, Gs.bT, Gs.fe, Gs.fC, Gs.ce, Gs.dX, Gs.re]; done)) ah (fun w10 ah _ aT => ?_)
 replace cO := cO.aA aT (Own.aP cO (by assumption) (by decide))
 replace dY := aT.ak dY (by exact fE (by assumption) (by assumption) (by decide))
 refine Z.a 4 ah ?_
 replace aI := aT.ak aI xB
 replace hF := hF.go1 aT bU
 rw [Gs.akm hpn9 (Classical.not_not.1 (by assumption))]; exact ⟨_, rfl, rfl, bp18, A18, n18, cp18, aI, dY, cO, hn18, hb18.imp id (fun h => by omega), (fun k hk => (ho18 k hk).imp id (fun h => by omega)), hF⟩
theorem Me {bk : Nat} {st why tn : Int} {x0 x4 x5 : Value} {w : World} (aV : Z.h w bk #[x0, Z.i st, Z.i why, Z.i tn, x4, x5] 95) (hst : 1 ≤ st ∧ st ≤ 3)  :
    oX 63 #[.pointer (some ⟨bk, 1, none⟩)] w fun e w' => ∃ v, e = .returned v ∧ ∃ (q : Bool) (why tn : Int), v = .bool q ∧ Z.h w' bk #[x0, Z.i 1, Z.i why, Z.i tn, x4, x5] 95 ∧ az (· = bk) w w' := by
 refine F63.calls ?_
 unfold F63
 have hF : az (· = bk) w w := Fr.refl _ _ _
 refine dm ?_
 refine Z.f 0 ?_
 refine Z.l aV ?_
 refine ay (kL _ _ _ _ _) (fun h1 => ?_) (fun h1 => ?_)
 refine bD (bD ?_)
 refine dm ?_
 refine bD ?_
 refine Z.f 0 ?_
 refine bD ?_
 refine Z.l aV ?_
 refine bD ?_
 refine ay (kL _ _ _ _ _) (fun h2 => ?_) (fun h2 => ?_)
 refine bu (aH ?_)
 (have e : st = 1 := (by omega); subst e; exact ⟨_, rfl, _, _, _, rfl, aV, hF⟩)
 refine bu (aB ?_)
 refine aJ (zB aV) (fun v4 w4 D4 => ?_)
 obtain ⟨t16, N4, U4⟩ := D4
 replace aV := N4
 replace hF := hF.go U4 (fun i _ h => h)
 exact ⟨_, rfl, _, _, _, rfl, aV, hF⟩
 refine bf (bf (bf (bf (bf (bG (aB ?_))))))
 refine aJ (zB aV) (fun v6 w6 D6 => ?_)
 obtain ⟨t16, N6, U6⟩ := D6
 replace aV := N6
 replace hF := hF.go U6 (fun i _ h => h)
 exact ⟨_, rfl, _, _, _, rfl, aV, hF⟩
theorem QK {bk : Nat} {st why tn : Int} {x0 x4 x5 : Value} {w : World} (aV : Z.h w bk #[x0, Z.i st, Z.i why, Z.i tn, x4, x5] 95) (hst : 1 ≤ st ∧ st ≤ 3)  :
    oX 47 #[.pointer (some ⟨bk, 1, none⟩)] w fun e w' => ∃ v, e = .returned v ∧ ∃ (q : Bool) (st why tn : Int), v = .bool q ∧ (1 ≤ st ∧ st ≤ 3) ∧ Z.h w' bk #[x0, Z.i st, Z.i why, Z.i tn, x4, x5] 95 ∧ az (· = bk) w w' := by
 refine F47.calls ?_
 unfold F47
 have hF : az (· = bk) w w := Fr.refl _ _ _
 refine dm ?_
 refine Z.f 0 ?_
 refine Z.l aV ?_
 refine ay (kL _ _ _ _ _) (fun h1 => ?_) (fun h1 => ?_)
 refine aH ?_
 exact ⟨_, rfl, _, _, _, _, rfl, hst, aV, hF⟩
 refine aB ?_
 refine aJ (zB aV) (fun v3 w3 D3 => ?_)
 obtain ⟨t9, N3, U3⟩ := D3
 replace aV := N3
 replace hF := hF.go U3 (fun i _ h => h)
 exact ⟨_, rfl, _, _, _, _, rfl, (by decide : (1 : Int) ≤ 1 ∧ (1 : Int) ≤ 3), aV, hF⟩
theorem SQ {bk : Nat} {st why tn : Int} {x0 x4 x5 : Value} {w : World} (aV : Z.h w bk #[x0, Z.i st, Z.i why, Z.i tn, x4, x5] 95) {y : Int} (hs : st = 1) :
    oX 51 #[.pointer (some ⟨bk, 1, none⟩), Z.i y] w fun e w' => ∃ v, e = .returned v ∧ v = Z.i y ∧ ∃ (st why tn : Int), (1 ≤ st ∧ st ≤ 3) ∧ Z.h w' bk #[x0, Z.i st, Z.i why, Z.i tn, x4, x5] 95 ∧ az (· = bk) w w' := by
 refine F51.calls ?_
 unfold F51
 have hF : az (· = bk) w w := Fr.refl _ _ _
 refine aG (AV aV) (fun w1 U1 => ?_)
 rw [if_pos hs]
 refine nM (kL _ _ _ _ _) (fun h => h rfl) ?_
 refine aB ?_
 refine bH (fun g w' => ∃ (st : Int) (why : Int) (tn : Int), (Z.h w' bk #[x0, Z.i st, Z.i why, Z.i tn, x4, x5] 95) ∧ ((1 ≤ st ∧ st ≤ 3)) ∧ (az (· = bk) w w')) (fun J1 hJ1 => ?_) (fun gJ1 jX hI => ?_)
 refine ay (kL _ _ _ _ _) (fun h2 => ?_) (fun h2 => ?_)
 refine aH ?_
 replace aV := U1.ag aV
 refine aJ (Ed aV (s2 := 3) (y2 := y)) (fun v3 w3 D3 => ?_)
 obtain ⟨t15, N3, U3⟩ := D3
 replace aV := N3
 replace hF := hF.go0 U1
 replace hF := hF.go U3 (fun i _ h => h)
 refine hJ1 _ _ ?_
 exact ⟨_, _, _, aV, (by omega), hF⟩
 refine aB ?_
 refine hJ1 _ _ ?_
 replace aV := U1.ag aV
 replace hF := hF.go0 U1
 exact ⟨_, _, _, aV, (by omega), hF⟩
 replace aV := U1.ag aV
 replace hF := hF.go0 U1
 obtain ⟨st, why, tn, aV, hst, hF⟩ := hI
 exact ⟨_, rfl, rfl, _, _, _, hst, aV, hF⟩
theorem YR {r c cur : Int} {A : Option Addr} {n cp bp B0 : Nat} {cs : List Gs.Cell} {w : World} (af : Z.h w bp #[Z.i r, Z.i c, .slice A n cp, Z.i cur] 91) (ae : Own B0 w 37 5 (.slice A n cp) (rows Gs.cv cs)) (hW : Gs.Pw r c n cs cur) {k : Int} :
    oX 50 #[Z.p bp, Z.i k] w fun e w' => ∃ v, e = .returned v ∧ ∃ (q : Bool) (cur1 : Int), v = .bool q ∧ Gs.Pw r c n cs cur1 ∧ (q = true → 2 ≤ k ∧ k ≤ 9) ∧ (q = false → cur1 = cur ∧ ¬ (2 ≤ k ∧ k ≤ 9)) ∧ Z.h w' bp #[Z.i r, Z.i c, .slice A n cp, Z.i cur1] 91 ∧ az (· = bp) w w' := by
 refine F50.calls ?_
 unfold F50
 obtain ⟨hn, hcw, hcu, hp, hN, hb⟩ := id hW; have hrc := hW.rc
 have hF : az (· = bp) w w := Fr.refl _ _ _
 refine bH (fun g w' => ∃ (cur1 : Int), (Z.h w' bp #[Z.i r, Z.i c, .slice A n cp, Z.i cur1] 91) ∧ (Gs.Pw r c n cs cur1) ∧ (2 ≤ k ∧ k ≤ 9) ∧ (az (· = bp) w w')) (fun J1 hJ1 => ?_) (fun gJ1 jX hI => ?_)
 refine ay (dC _ _ _ _ _) (fun h1 => ?_) (fun h1 => ?_)
 refine aH ?_
 refine aJ (Eb af ae hW) (fun v2 w2 D2 => ?_)
 obtain ⟨cur, rfl, hW, N2, U2⟩ := D2
 obtain ⟨hn, hcw, hcu, hp, hN, hb⟩ := id hW
 replace af := N2
 replace hF := hF.go U2 (fun i _ h => h)
 refine hJ1 _ _ ?_
 exact ⟨_, af, hW, (by omega), hF⟩
 refine aB ?_
 refine ay (dC _ _ _ _ _) (fun h3 => ?_) (fun h3 => ?_)
 refine aH ?_
 refine aJ (Sl af ae hW) (fun v4 w4 D4 => ?_)
 obtain ⟨cur, rfl, hW, N4, U4⟩ := D4
 obtain ⟨hn, hcw, hcu, hp, hN, hb⟩ := id hW
 replace af := N4
 replace hF := hF.go U4 (fun i _ h => h)
 refine hJ1 _ _ ?_
 exact ⟨_, af, hW, (by omega), hF⟩
 refine aB ?_
 refine ay (dC _ _ _ _ _) (fun h5 => ?_) (fun h5 => ?_)
 refine aH ?_
 refine aJ (LZ af ae hW) (fun v6 w6 D6 => ?_)
 obtain ⟨cur, rfl, hW, N6, U6⟩ := D6
 obtain ⟨hn, hcw, hcu, hp, hN, hb⟩ := id hW
 replace af := N6
 replace hF := hF.go U6 (fun i _ h => h)
 refine hJ1 _ _ ?_
 exact ⟨_, af, hW, (by omega), hF⟩
 refine aB ?_
 refine ay (dC _ _ _ _ _) (fun h7 => ?_) (fun h7 => ?_)
 refine aH ?_
 refine aJ (QH af ae hW) (fun v8 w8 D8 => ?_)
 obtain ⟨cur, rfl, hW, N8, U8⟩ := D8
 obtain ⟨hn, hcw, hcu, hp, hN, hb⟩ := id hW
 replace af := N8
 replace hF := hF.go U8 (fun i _ h => h)
 refine hJ1 _ _ ?_
 exact ⟨_, af, hW, (by omega), hF⟩
 refine aB ?_
 refine ay (dC _ _ _ _ _) (fun h9 => ?_) (fun h9 => ?_)
 refine aH ?_
 refine aJ (xZ af ae hW (i := -1) (j := 0) (by decide) (by decide)) (fun v10 w10 D10 => ?_)
 obtain ⟨cur, rfl, hW, N10, aT⟩ := D10
 obtain ⟨hn, hcw, hcu, hp, hN, hb⟩ := id hW
 replace af := N10
 replace hF := hF.go aT (fun i _ h => h)
 refine hJ1 _ _ ?_
 exact ⟨_, af, hW, (by omega), hF⟩
 refine aB ?_
 refine ay (dC _ _ _ _ _) (fun h11 => ?_) (fun h11 => ?_)
 refine aH ?_
 refine aJ (xZ af ae hW (i := 1) (j := 0) (by decide) (by decide)) (fun v12 w12 D12 => ?_)
 obtain ⟨cur, rfl, hW, N12, cZ⟩ := D12
 obtain ⟨hn, hcw, hcu, hp, hN, hb⟩ := id hW
 replace af := N12
 replace hF := hF.go cZ (fun i _ h => h)
 refine hJ1 _ _ ?_
 exact ⟨_, af, hW, (by omega), hF⟩
 refine aB ?_
 refine ay (dC _ _ _ _ _) (fun h13 => ?_) (fun h13 => ?_)
 refine aH ?_
 refine aJ (xZ af ae hW (i := 0) (j := -1) (by decide) (by decide)) (fun v14 sJ D14 => ?_)
 obtain ⟨cur, rfl, hW, N14, dw⟩ := D14
 obtain ⟨hn, hcw, hcu, hp, hN, hb⟩ := id hW
 replace af := N14
 replace hF := hF.go dw (fun i _ h => h)
 refine hJ1 _ _ ?_
 exact ⟨_, af, hW, (by omega), hF⟩
 refine aB ?_
 refine ay (dC _ _ _ _ _) (fun h15 => ?_) (fun h15 => ?_)
 refine aH ?_
 refine aJ (xZ af ae hW (i := 0) (j := 1) (by decide) (by decide)) (fun v16 w16 D16 => ?_)
 obtain ⟨cur, rfl, hW, N16, bZ⟩ := D16
 obtain ⟨hn, hcw, hcu, hp, hN, hb⟩ := id hW
 replace af := N16
 replace hF := hF.go bZ (fun i _ h => h)
 refine hJ1 _ _ ?_
 exact ⟨_, af, hW, (by omega), hF⟩
 refine aB ?_
 exact ⟨_, rfl, _, _, rfl, hW, (fun h => by cases h), (fun _ => ⟨rfl, by omega⟩), af, hF⟩
 obtain ⟨cur1, af, hW1, hk9, hF⟩ := hI
 exact ⟨_, rfl, _, _, rfl, hW1, (fun _ => hk9), (fun h => by cases h), af, hF⟩
theorem YS {r c cur : Int} {A : Option Addr} {n cp bp B0 : Nat} {cs : List Gs.Cell} {bk bs : Nat} {st why tn last : Int} {ins : Bool} {r0 c0 r1 c1 wh : Int} {w : World} (af : Z.h w bp #[Z.i r, Z.i c, .slice A n cp, Z.i cur] 91) (ae : Own B0 w 37 5 (.slice A n cp) (rows Gs.cv cs)) (hW : Gs.Pw r c n cs cur) (aV : Z.h w bk #[Z.p bs, Z.i st, Z.i why, Z.i tn, .bool ins, Z.u last] 95) (aI : Z.h w bs #[Z.i r0, Z.i c0, Z.i r1, Z.i c1, Z.i wh, Z.p bp] 89) {k x : Int} (hxb : 0 ≤ x ∧ x ≤ 255) :
    oX 52 #[Z.p bk, .agg #[Z.i k, Z.u x]] w fun e w' => ∃ v, e = .returned v ∧ ∃ (q : Int) (c1 : List Gs.Cell) (cur1 : Int) (ins1 : Bool), v = Z.i q ∧ Gs.Pw r c n c1 cur1 ∧ Gs.ER k q cs c1 cur cur1 ∧ Z.h w' bp #[Z.i r, Z.i c, .slice A n cp, Z.i cur1] 91 ∧ Own B0 w' 37 5 (.slice A n cp) (rows Gs.cv c1) ∧ Z.h w' bk #[Z.p bs, Z.i st, Z.i why, Z.i tn, .bool ins1, Z.u last] 95 ∧ az (fun k => (aC (.slice A n cp) k ∨ k = bp) ∨ k = bk) w w' := by
 refine F52.calls ?_
 unfold F52
 obtain ⟨hn, hcw, hcu, hp, hN, hb⟩ := id hW; have hrc := hW.rc
 have hF : az (fun k => (aC (.slice A n cp) k ∨ k = bp) ∨ k = bk) w w := Fr.refl _ _ _
 refine Z.x (#[Z.i k, Z.u x]) (fun b1 w1 e1 ah _ U1 => ?_)
 refine dm ?_
 refine Z.f 0 ?_
 replace aV := U1.ag aV
 refine Z.l aV ?_
 replace aI := U1.ag aI
 refine aG (zC aI) (fun w2 U2 => ?_)
 refine bH (fun g w' => ∃ (c1 : List Gs.Cell) (cur1 : Int) (ins1 : Bool), (Own B0 w' 37 5 (.slice A n cp) (rows Gs.cv c1)) ∧ (Z.h w' bp #[Z.i r, Z.i c, .slice A n cp, Z.i cur1] 91) ∧ (Z.h w' bk #[Z.p bs, Z.i st, Z.i why, Z.i tn, .bool ins1, Z.u last] 95) ∧ (Gs.Pw r c n c1 cur1) ∧ (Gs.ER k 0 cs c1 cur cur1) ∧ (az (fun k => (aC (.slice A n cp) k ∨ k = bp) ∨ k = bk) w w')) (fun J1 hJ1 => ?_) (fun gJ1 jX hI => ?_)
 refine Z.f 0 ?_
 replace ah := U2.ag ah
 refine Z.l ah ?_
 refine ay (dC _ _ _ _ _) (fun h3 => ?_) (fun h3 => ?_)
 refine aH ?_
 refine dQ (S := no) (fun w4 U4 => ?_)
 refine Z.g 1 ?_
 replace ah := U4.ag ah
 refine Z.m ah ?_
 refine gK ?_
 refine Z.g 4 ?_
 replace aV := U4.ag (U2.ag aV)
 refine Z.m aV ?_
 refine aF (fun w5 U5 => ?_)
 replace ae := (((ae.ai U1).ai U2).ai U4).ai U5
 replace af := U5.ag (U4.ag (U2.ag (U1.ag af)))
 refine aJ (BR af ae hW (x := x) (ins := ins) hxb) (fun v6 w6 D6 => ?_)
 obtain ⟨e22, c1, cur1, rfl, hW1, hm22, M6, N6, U6⟩ := D6
 have aK := ae
 replace ae := N6
 replace aV := U5.ag aV
 replace aV := U6.get aV (fun hs => Or.elim (show aC _ _ ∨ _ = _ from hs) (fun h => Own.aP aK aV (by decide) _ h rfl) (fun hb => absurd hb (by exact fE (by assumption) (by assumption) (by decide))))
 replace af := M6
 replace hF := (((hF.go0 U1).go0 U2).go0 U4).go0 U5
 replace hF := hF.go U6 (fun i h hs => Or.elim (show aC _ _ ∨ _ = _ from hs) (fun hs => .inl (.inl hs)) (fun hb => by (subst hb; omega)))
 clear aK
 refine aF (fun w7 U7 => ?_)
 replace ae := ae.ai U7
 replace aV := U7.ag aV
 replace af := U7.ag af
 replace hF := hF.go0 U7
 exact ⟨_, rfl, _, _, _, _, rfl, hW1, .inl ⟨by omega, (by exact hm22)⟩, af, ae, aV, hF⟩
 refine aB ?_
 refine ay (dC _ _ _ _ _) (fun h9 => ?_) (fun h9 => ?_)
 refine aH ?_
 replace ae := (ae.ai U1).ai U2
 replace af := U2.ag (U1.ag af)
 refine aJ (SK af ae hW) (fun v10 w10 D10 => ?_)
 obtain ⟨e26, c1, cur1, rfl, hW1, hm26, M10, N10, aT⟩ := D10
 have aK := ae
 replace ae := N10
 replace aV := U2.ag aV
 replace aV := aT.get aV (fun hs => Or.elim (show aC _ _ ∨ _ = _ from hs) (fun h => Own.aP aK aV (by decide) _ h rfl) (fun hb => absurd hb (by exact fE (by assumption) (by assumption) (by decide))))
 replace af := M10
 replace hF := (hF.go0 U1).go0 U2
 replace hF := hF.go aT (fun i h hs => Or.elim (show aC _ _ ∨ _ = _ from hs) (fun hs => .inl (.inl hs)) (fun hb => by (subst hb; omega)))
 clear aK
 exact ⟨_, rfl, _, _, _, _, rfl, hW1, .inl ⟨by omega, (by exact hm26)⟩, af, ae, aV, hF⟩
 refine aB ?_
 refine ay (dC _ _ _ _ _) (fun h12 => ?_) (fun h12 => ?_)
 refine aH ?_
 replace ae := (ae.ai U1).ai U2
 replace af := U2.ag (U1.ag af)
 refine aJ (VK af ae hW) (fun v13 uM D13 => ?_)
 obtain ⟨q30, cs, cur, rfl, hW, M13, N13, dI⟩ := D13
 obtain ⟨hn, hcw, hcu, hp, hN, hb⟩ := id hW
 have aK := ae
 replace ae := N13
 replace aV := U2.ag aV
 replace aV := dI.get aV (fun hs => Or.elim (show aC _ _ ∨ _ = _ from hs) (fun h => Own.aP aK aV (by decide) _ h rfl) (fun hb => absurd hb (by exact fE (by assumption) (by assumption) (by decide))))
 replace af := M13
 replace hF := (hF.go0 U1).go0 U2
 replace hF := hF.go dI (fun i h hs => Or.elim (show aC _ _ ∨ _ = _ from hs) (fun hs => .inl (.inl hs)) (fun hb => by (subst hb; omega)))
 clear aK
 refine hJ1 _ _ ?_
 exact ⟨_, _, _, ae, af, aV, hW, (.inr (.inl ⟨by assumption, rfl⟩)), hF⟩
 refine aB ?_
 refine ay (dC _ _ _ _ _) (fun h14 => ?_) (fun h14 => ?_)
 refine aH ?_
 replace ae := (ae.ai U1).ai U2
 replace af := U2.ag (U1.ag af)
 refine aJ (L9 af ae hW) (fun v15 uN D15 => ?_)
 obtain ⟨e34, c1, cur1, rfl, hW1, hm34, M15, N15, dH⟩ := D15
 have aK := ae
 replace ae := N15
 replace aV := U2.ag aV
 replace aV := dH.get aV (fun hs => Or.elim (show aC _ _ ∨ _ = _ from hs) (fun h => Own.aP aK aV (by decide) _ h rfl) (fun hb => absurd hb (by exact fE (by assumption) (by assumption) (by decide))))
 replace af := M15
 replace hF := (hF.go0 U1).go0 U2
 replace hF := hF.go dH (fun i h hs => Or.elim (show aC _ _ ∨ _ = _ from hs) (fun hs => .inl (.inl hs)) (fun hb => by (subst hb; omega)))
 clear aK
 exact ⟨_, rfl, _, _, _, _, rfl, hW1, .inl ⟨by omega, (by exact hm34)⟩, af, ae, aV, hF⟩
 refine aB ?_
 refine ay (dC _ _ _ _ _) (fun h17 => ?_) (fun h17 => ?_)
 refine aH ?_
 refine dm ?_
 refine Z.f 4 ?_
 replace aV := U2.ag aV
 refine Z.l aV ?_
 refine aj (Ak _) ?_
 refine dm ?_
 refine Z.f 4 ?_
 refine Z.s aV (fun uY aV _ dE => ?_)
 replace ae := (ae.ai U1).ai U2
 replace ae := ae.aA dE (Own.aP ae (by assumption) (by decide))
 replace af := U2.ag (U1.ag af)
 replace af := dE.ak af (by exact fE (by assumption) (by assumption) (by decide))
 replace hF := (hF.go0 U1).go0 U2
 replace hF := hF.go dE (fun i _ h => .inr h)
 refine hJ1 _ _ ?_
 exact ⟨_, _, _, ae, af, aV, hW, (.inr (.inr ⟨by omega, rfl, rfl, rfl⟩)), hF⟩
 refine aB ?_
 refine ay (dC _ _ _ _ _) (fun h19 => ?_) (fun h19 => ?_)
 refine aH ?_
 refine dm ?_
 refine Z.f 4 ?_
 replace aV := U2.ag aV
 refine Z.l aV ?_
 replace ae := (ae.ai U1).ai U2
 replace af := U2.ag (U1.ag af)
 refine aJ (SL af ae hW (ins := ins)) (fun v20 wE D20 => ?_)
 obtain ⟨e52, c1, cur1, rfl, hW1, hm52, M20, N20, dJ⟩ := D20
 have aK := ae
 replace ae := N20
 replace aV := dJ.get aV (fun hs => Or.elim (show aC _ _ ∨ _ = _ from hs) (fun h => Own.aP aK aV (by decide) _ h rfl) (fun hb => absurd hb (by exact fE (by assumption) (by assumption) (by decide))))
 replace af := M20
 replace hF := (hF.go0 U1).go0 U2
 replace hF := hF.go dJ (fun i h hs => Or.elim (show aC _ _ ∨ _ = _ from hs) (fun hs => .inl (.inl hs)) (fun hb => by (subst hb; omega)))
 clear aK
 exact ⟨_, rfl, _, _, _, _, rfl, hW1, .inl ⟨by omega, (by exact hm52)⟩, af, ae, aV, hF⟩
 refine aB ?_
 refine ay (dC _ _ _ _ _) (fun h22 => ?_) (fun h22 => ?_)
 refine aH ?_
 refine dm ?_
 refine Z.f 4 ?_
 replace aV := U2.ag aV
 refine Z.l aV ?_
 replace ae := (ae.ai U1).ai U2
 replace af := U2.ag (U1.ag af)
 refine aJ (QJ af ae hW (ins := ins)) (fun v23 AB D23 => ?_)
 obtain ⟨e60, c1, cur1, rfl, hW1, hm60, M23, N23, eF⟩ := D23
 have aK := ae
 replace ae := N23
 replace aV := eF.get aV (fun hs => Or.elim (show aC _ _ ∨ _ = _ from hs) (fun h => Own.aP aK aV (by decide) _ h rfl) (fun hb => absurd hb (by exact fE (by assumption) (by assumption) (by decide))))
 replace af := M23
 replace hF := (hF.go0 U1).go0 U2
 replace hF := hF.go eF (fun i h hs => Or.elim (show aC _ _ ∨ _ = _ from hs) (fun hs => .inl (.inl hs)) (fun hb => by (subst hb; omega)))
 clear aK
 exact ⟨_, rfl, _, _, _, _, rfl, hW1, .inl ⟨by omega, (by exact hm60)⟩, af, ae, aV, hF⟩
 refine aB ?_
 refine hJ1 _ _ ?_
 replace ae := (ae.ai U1).ai U2
 replace af := U2.ag (U1.ag af)
 replace hF := (hF.go0 U1).go0 U2
 replace aV := U2.ag aV
 exact ⟨_, _, _, ae, af, aV, hW, (.inr (.inr ⟨by omega, rfl, rfl, rfl⟩)), hF⟩
 replace ae := (ae.ai U1).ai U2
 replace af := U2.ag (U1.ag af)
 replace hF := (hF.go0 U1).go0 U2
 replace aV := U2.ag aV
 obtain ⟨c1, cur1, ins1, ae, af, aV, hW1, her, hF⟩ := hI
 exact ⟨_, rfl, _, _, _, _, rfl, hW1, her, af, ae, aV, hF⟩
theorem adU {r c cur : Int} {A : Option Addr} {n cp bp B0 : Nat} {cs : List Gs.Cell} {bk bs : Nat} {st why tn last : Int} {ins : Bool} {r0 c0 r1 c1 wh : Int} {w : World} (af : Z.h w bp #[Z.i r, Z.i c, .slice A n cp, Z.i cur] 91) (ae : Own B0 w 37 5 (.slice A n cp) (rows Gs.cv cs)) (hW : Gs.Pw r c n cs cur) (aV : Z.h w bk #[Z.p bs, Z.i st, Z.i why, Z.i tn, .bool ins, Z.u last] 95) (aI : Z.h w bs #[Z.i r0, Z.i c0, Z.i r1, Z.i c1, Z.i wh, Z.p bp] 89) {k x : Int} (hxb : 0 ≤ x ∧ x ≤ 255) (hk17 : k ≠ 17) (hst : 1 ≤ st ∧ st ≤ 3)  :
    oX 18 #[Z.p bk, .agg #[Z.i k, Z.u x]] w fun e w' => ∃ v, e = .returned v ∧ ∃ (e st' why' tn' : Int) (ins' : Bool) (c1 : List Gs.Cell) (cur1 : Int), v = .tuple #[.bool false, Z.i e] ∧ (1 ≤ st' ∧ st' ≤ 3) ∧ Gs.Pw r c n c1 cur1 ∧ Gs.PR k e st cs c1 cur ∧ Z.h w' bp #[Z.i r, Z.i c, .slice A n cp, Z.i cur1] 91 ∧ Own B0 w' 37 5 (.slice A n cp) (rows Gs.cv c1) ∧ Z.h w' bk #[Z.p bs, Z.i st', Z.i why', Z.i tn', .bool ins', Z.u last] 95 ∧ az (fun k => (aC (.slice A n cp) k ∨ k = bp) ∨ k = bk) w w' := by
 refine WR.calls ?_
 unfold WR
 obtain ⟨hn, hcw, hcu, hp, hN, hb⟩ := id hW; have hrc := hW.rc
 have hF : az (fun k => (aC (.slice A n cp) k ∨ k = bp) ∨ k = bk) w w := Fr.refl _ _ _
 refine Z.x (#[Z.i k, Z.u x]) (fun b1 w1 e1 ah _ U1 => ?_)
 have jW : bp ≠ b1 := by have := au af; omega
 refine Z.f 0 ?_
 refine Z.l ah ?_
 refine ay (dC _ _ _ _ _) (fun h2 => ?_) (fun h2 => ?_)
 refine aH ?_
 refine dm ?_
 refine Z.f 1 ?_
 replace aV := U1.ag aV
 refine aJ (QK aV hst) (fun v3 w3 D3 => ?_)
 obtain ⟨q13, st1, why1, tn1, rfl, hst1, N3, U3⟩ := D3
 replace ae := ae.ai U1
 replace ae := ae.aA U3 (Own.aP ae (by assumption) (by decide))
 replace af := U1.ag af
 replace af := U3.ak af (by exact fE (by assumption) (by assumption) (by decide))
 replace aV := N3
 replace hF := hF.go0 U1
 replace hF := hF.go U3 (fun i _ h => .inr h)
 refine dm ?_
 refine Z.f 4 ?_
 refine Z.s aV (fun w4 aV _ U4 => ?_)
 replace ae := ae.aA U4 (Own.aP ae (by assumption) (by decide))
 replace af := U4.ak af (by exact fE (by assumption) (by assumption) (by decide))
 replace hF := hF.go U4 (fun i _ h => .inr h)
 exact ⟨_, rfl, _, _, _, _, _, _, _, rfl, hst1, hW, Gs.PR.keep (by omega), af, ae, aV, hF⟩
 refine aB ?_
 refine dm ?_
 refine Z.f 1 ?_
 replace aV := U1.ag aV
 refine aG (AV aV) (fun w6 U6 => ?_)
 obtain ⟨em, hem⟩ : ∃ em : Int, em = (if st = 1 then 0 else 40) := ⟨_, rfl⟩
 rw [← hem]
 have hem2 : (em = 0 → st = 1) ∧ (st = 1 → em = 0) := by subst hem; split <;> omega
 clear hem
 refine ay (kL _ _ _ _ _) (fun h7 => ?_) (fun h7 => ?_)
 refine aH ?_
 replace ae := (ae.ai U1).ai U6
 replace af := U6.ag (U1.ag af)
 replace hF := (hF.go0 U1).go0 U6
 replace aV := U6.ag aV
 exact ⟨_, rfl, _, _, _, _, _, _, _, rfl, hst, hW, Gs.PR.keep (by omega), af, ae, aV, hF⟩
 refine aB ?_
 replace ah := U6.ag ah
 refine Z.b 2 (#[Z.i k, Z.u x]) ah ?_
 refine dS (MB hxb) (fun w9 U9 h9 => ?_) (fun w9 U9 h9 => ?_)
 simp only [Z.d, Z.c] at h9
 refine aj (lX) ?_
 refine aB ?_
 refine Z.f 0 ?_
 replace ah := U9.ag ah
 refine Z.l ah ?_
 refine nM (dC _ _ _ _ _) (hk17) ?_
 refine aB ?_
 refine dQ (S := no) (fun w10 aT => ?_)
 refine gK ?_
 refine Z.g 0 ?_
 replace aV := aT.ag (U9.ag (U6.ag aV))
 refine bi (fun w' hw' => by have aV := (Fr.jA hw').ag aV; exact (kK (by kernel_rfl) aV (by rfl))) ?_
 refine Z.g 0 ?_
 replace ah := aT.ag ah
 refine Z.m ah ?_
 refine aF (fun oz bK => ?_)
 refine jC ?_
 replace aI := bK.ag (aT.ag (U9.ag (U6.ag (U1.ag aI))))
 refine aG (zC aI) (fun w12 cZ => ?_)
 refine ⟨cZ, ?_⟩
 refine aF (fun uM dI => ?_)
 replace ae := ((((((ae.ai U1).ai U6).ai U9).ai aT).ai bK).ai cZ).ai dI
 replace af := dI.ag (cZ.ag (bK.ag (aT.ag (U9.ag (U6.ag (U1.ag af))))))
 refine aJ (YR af ae hW (k := k)) (fun v14 sJ D14 => ?_)
 obtain ⟨q47, cur1, rfl, hW1, hy47, hz47, N14, dw⟩ := D14
 replace ae := ae.aA dw (Own.aP ae (by assumption) (by decide))
 replace aV := dI.ag (cZ.ag (bK.ag aV))
 replace aV := dw.ak aV (by exact fE (by assumption) (by assumption) (by decide))
 replace aI := dI.ag (cZ.ag aI)
 replace aI := dw.ak aI (by exact fE (by assumption) (by assumption) (by decide))
 replace af := N14
 replace hF := ((((((hF.go0 U1).go0 U6).go0 U9).go0 aT).go0 bK).go0 cZ).go0 dI
 replace hF := hF.go dw (fun i _ h => .inl (.inr h))
 refine aF (fun uN dH => ?_)
 refine jZ (fun h16 => ?_) (fun h16 => ?_)
 replace ae := ae.ai dH
 replace aV := dH.ag aV
 replace af := dH.ag af
 replace hF := hF.go0 dH
 exact ⟨_, rfl, _, _, _, _, _, _, _, rfl, hst, hW1, Gs.PR.keep (by have := hy47 (by assumption); omega), af, ae, aV, hF⟩
 refine dQ (S := (fun k => (aC (.slice A n cp) k ∨ k = bp) ∨ k = bk)) (fun uY dE => ?_)
 refine gK ?_
 refine Z.g 1 ?_
 obtain ⟨rfl, hk9⟩ := hz47 (by assumption)
 replace ah := dE.ag (dH.ag (dw.ak (dI.ag (cZ.ag (bK.ag ah))) (Ne.symm jW)))
 refine bi (fun w' hw' => by have ah := (Fr.jA hw').ag ah; exact (BH (n := 2) (cs' := #[Z.i k, Z.u x]) (by kernel_rfl) ah (Nat.le_of_ble_eq_true rfl) (by rfl))) ?_
 refine aF (fun yK eu => ?_)
 refine jC ?_
 replace ae := ((ae.ai dH).ai dE).ai eu
 replace aV := eu.ag (dE.ag (dH.ag aV))
 replace aI := eu.ag (dE.ag (dH.ag aI))
 replace af := eu.ag (dE.ag (dH.ag af))
 refine aJ (YS af ae hW aV aI hxb) (fun v20 wE D20 => ?_)
 replace hF := ((hF.go0 dH).go0 dE).go0 eu
 have qF20 := hF.size
 obtain ⟨q53, c1, cur1, ins1, rfl, hW1, her53, af, ae, aV, dJ⟩ := D20
 replace hF := hF.go dJ (fun i hi hs => by exact hs)
 refine ⟨dJ, ?_⟩
 refine aF (fun BD dL => ?_)
 replace aV := dL.ag aV
 refine aJ (SQ aV (hem2.1 (Classical.not_not.1 (by assumption)))) (fun v22 ED D22 => ?_)
 obtain ⟨rfl, st1, why1, tn1, hst1, N22, fB⟩ := D22
 replace ae := ae.ai dL
 replace ae := ae.aA fB (Own.aP ae (by assumption) (by decide))
 replace af := dL.ag af
 replace af := fB.ak af (by exact fE (by assumption) (by assumption) (by decide))
 replace aV := N22
 replace hF := hF.go0 dL
 replace hF := hF.go fB (fun i _ h => .inr h)
 refine aF (fun AB eF => ?_)
 replace ae := ae.ai eF
 replace aV := eF.ag aV
 replace af := eF.ag af
 replace hF := hF.go0 eF
 exact ⟨_, rfl, _, _, _, _, _, _, _, rfl, hst1, hW1, her53.pr, af, ae, aV, hF⟩
 simp only [Z.d, Z.c] at h9
 refine aj (mV) ?_
 refine aH ?_
 replace ae := ((ae.ai U1).ai U6).ai U9
 replace af := U9.ag (U6.ag (U1.ag af))
 replace hF := ((hF.go0 U1).go0 U6).go0 U9
 replace aV := U9.ag (U6.ag aV)
 exact ⟨_, rfl, _, _, _, _, _, _, _, rfl, hst, hW, Gs.PR.keep (by omega), af, ae, aV, hF⟩
theorem Ui {s : Gs.jb} {pv : Option Addr} {bs : Nat} {w : World} (aI : Z.h w bs #[Z.i s.r0, Z.i s.c0, Z.i s.r1, Z.i s.c1, Z.i s.wh, .pointer pv] 89) (hz0 : Gs.aU s.r0 s.c0 ≠ 0) (hz1 : Gs.aU s.r1 s.c1 ≠ 0) :
    oX 44 #[Z.p bs] w fun e w' => ∃ v, e = .returned v ∧ ∃ bp g, Z.h w' bs #[Z.i (Gs.bM s 0).r0, Z.i (Gs.bM s 0).c0, Z.i (Gs.bM s 0).r1, Z.i (Gs.bM s 0).c1, Z.i (Gs.bM s 0).wh, Z.p bp] 89 ∧ w.heap.size ≤ bp ∧ Z.h w' bp #[Z.i (Gs.bM s 0).r, Z.i (Gs.bM s 0).c, .slice (some ⟨g, 0, none⟩) (Gs.bM s 0).cs.length (Gs.bM s 0).cs.length, Z.i (Gs.bM s 0).cur] 91 ∧ Own w.heap.size w' 37 5 (.slice (some ⟨g, 0, none⟩) (Gs.bM s 0).cs.length (Gs.bM s 0).cs.length) (rows Gs.cv (Gs.bM s 0).cs) ∧ az (· = bs) w w' := by
 refine WV.calls ?_
 unfold WV
 have hF : az (· = bs) w w := Fr.refl _ _ _
 refine aJ (Ar aI hz0 hz1) (fun v1 w1 D1 => ?_)
 obtain ⟨bp, g, N1, gbp, af, ae, U1⟩ := D1
 have rD : w.heap.size ≤ bp := by have := hF.size; omega
 replace ae := ae.mono (B' := w.heap.size) hF.size
 replace aI := N1
 replace hF := hF.go U1 (fun i _ h => h)
 exact ⟨_, rfl, bp, g, aI, rD, af, ae, hF⟩
theorem aaH {s : Gs.jb} {A : Option Addr} {n cp bp bs B0 : Nat} {bk : Nat} {st why tn last : Int} {ins : Bool} {w : World} (aI : Z.h w bs #[Z.i s.r0, Z.i s.c0, Z.i s.r1, Z.i s.c1, Z.i s.wh, Z.p bp] 89) (af : Z.h w bp #[Z.i s.r, Z.i s.c, .slice A n cp, Z.i s.cur] 91) (ae : Own B0 w 37 5 (.slice A n cp) (rows Gs.cv s.cs)) (hS : Gs.Sw n s) (hB0 : B0 ≤ w.heap.size) (aV : Z.h w bk #[Z.p bs, Z.i st, Z.i why, Z.i tn, .bool ins, Z.u last] 95) {x : Int} (hst : st = 1) :
    oX 49 #[Z.p bk, Z.u x] w fun e w' => ∃ v, e = .returned v ∧ v = .tuple #[.bool true, Z.i 0] ∧ ∃ t' : Int, Z.h w' bk #[Z.p bs, Z.i 2, Z.i 0, Z.i t', .bool false, Z.u x] 95 ∧ ∃ (bp' : Nat) (A' : Option Addr) (n' cp' : Nat), Z.h w' bs #[Z.i (if x = 109 then Gs.bM s 0 else s).r0, Z.i (if x = 109 then Gs.bM s 0 else s).c0, Z.i (if x = 109 then Gs.bM s 0 else s).r1, Z.i (if x = 109 then Gs.bM s 0 else s).c1, Z.i (if x = 109 then Gs.bM s 0 else s).wh, Z.p bp'] 89 ∧ Z.h w' bp' #[Z.i (if x = 109 then Gs.bM s 0 else s).r, Z.i (if x = 109 then Gs.bM s 0 else s).c, .slice A' n' cp', Z.i (if x = 109 then Gs.bM s 0 else s).cur] 91 ∧ Own B0 w' 37 5 (.slice A' n' cp') (rows Gs.cv (if x = 109 then Gs.bM s 0 else s).cs) ∧ n' = (if x = 109 then Gs.bM s 0 else s).cs.length ∧ (bp' = bp ∨ w.heap.size ≤ bp') ∧ (∀ k, aC (.slice A' n' cp') k → aC (.slice A n cp) k ∨ w.heap.size ≤ k) ∧ az (fun k => ((aC (.slice A n cp) k ∨ k = bp) ∨ k = bs) ∨ k = bk) w w' := by
 refine F49.calls ?_
 unfold F49
 have hW := hS.2
 obtain ⟨hn, hcw, hcu, hp, hN, hb⟩ := id hW
 have hF : az (fun k => ((aC (.slice A n cp) k ∨ k = bp) ∨ k = bs) ∨ k = bk) w w := Fr.refl _ _ _
 refine dm ?_
 refine Z.f 1 ?_
 refine aJ (V4 aV hst) (fun v1 w1 D1 => ?_)
 obtain ⟨rfl, t10, N1, U1⟩ := D1
 replace ae := ae.aA U1 (Own.aP ae (by assumption) (by decide))
 replace aI := U1.ak aI (by exact fE (by assumption) (by assumption) (by decide))
 replace af := U1.ak af (by exact fE (by assumption) (by assumption) (by decide))
 replace aV := N1
 replace hF := hF.go U1 (fun i _ h => .inr h)
 refine nM (kL _ _ _ _ _) (fun h => h rfl) ?_
 refine aB ?_
 refine dm ?_
 refine Z.f 4 ?_
 refine Z.s aV (fun w2 aV _ U2 => ?_)
 replace ae := ae.aA U2 (Own.aP ae (by assumption) (by decide))
 replace aI := U2.ak aI (by exact fE (by assumption) (by assumption) (by decide))
 replace af := U2.ak af (by exact fE (by assumption) (by assumption) (by decide))
 replace hF := hF.go U2 (fun i _ h => .inr h)
 refine dm ?_
 refine Z.f 5 ?_
 refine Z.s aV (fun w3 aV _ U3 => ?_)
 replace ae := ae.aA U3 (Own.aP ae (by assumption) (by decide))
 replace aI := U3.ak aI (by exact fE (by assumption) (by assumption) (by decide))
 replace af := U3.ak af (by exact fE (by assumption) (by assumption) (by decide))
 replace hF := hF.go U3 (fun i _ h => .inr h)
 refine bH (fun g w' => ∃ (bp1 : Nat) (A1 : Option Addr) (n1 : Nat) (cp1 : Nat), (Z.h w' bk #[Z.p bs, Z.i 2, Z.i 0, Z.i t10, .bool false, Z.u x] 95) ∧ (Z.h w' bs #[Z.i (if x = 109 then Gs.bM s 0 else s).r0, Z.i (if x = 109 then Gs.bM s 0 else s).c0, Z.i (if x = 109 then Gs.bM s 0 else s).r1, Z.i (if x = 109 then Gs.bM s 0 else s).c1, Z.i (if x = 109 then Gs.bM s 0 else s).wh, Z.p bp1] 89) ∧ (Z.h w' bp1 #[Z.i (if x = 109 then Gs.bM s 0 else s).r, Z.i (if x = 109 then Gs.bM s 0 else s).c, .slice A1 n1 cp1, Z.i (if x = 109 then Gs.bM s 0 else s).cur] 91) ∧ (Own B0 w' 37 5 (.slice A1 n1 cp1) (rows Gs.cv (if x = 109 then Gs.bM s 0 else s).cs)) ∧ (n1 = (if x = 109 then Gs.bM s 0 else s).cs.length) ∧ (bp1 = bp ∨ w.heap.size ≤ bp1) ∧ (∀ k, aC (.slice A1 n1 cp1) k → aC (.slice A n cp) k ∨ w.heap.size ≤ k) ∧ (az (fun k => ((aC (.slice A n cp) k ∨ k = bp) ∨ k = bs) ∨ k = bk) w w')) (fun J1 hJ1 => ?_) (fun gJ1 jX hI => ?_)
 refine ay (dC _ _ _ _ _) (fun h4 => ?_) (fun h4 => ?_)
 refine aH ?_
 refine dm ?_
 refine Z.f 0 ?_
 refine Z.l aV ?_
 refine aJ (Ui aI hS.1.1 hS.1.2) (fun v5 w5 D5 => ?_)
 obtain ⟨bp2, g2, N5, gbp2, uj, jU, U5⟩ := D5
 have CO : w.heap.size ≤ bp2 := by have := hF.size; omega
 replace jU := jU.mono (B' := w.heap.size) hF.size
 replace aV := U5.ak aV (by exact fE (by assumption) (by assumption) (by decide))
 replace aI := N5
 replace hF := hF.go U5 (fun i _ h => .inl (.inr h))
 refine hJ1 _ _ ?_
 rw [show (if x = 109 then Gs.bM s 0 else s) = Gs.bM s 0 from if_pos (by assumption)]; exact ⟨bp2, some ⟨g2, 0, none⟩, _, _, aV, aI, uj, jU.mono hB0, rfl, .inr CO, (fun k hk => .inr (Own.ge jU hk).1), hF⟩
 refine aB ?_
 refine hJ1 _ _ ?_
 rw [show (if x = 109 then Gs.bM s 0 else s) = s from if_neg (by assumption)]; exact ⟨bp, A, n, cp, aV, aI, af, ae, hn, .inl rfl, (fun k hk => .inl hk), hF⟩
 obtain ⟨bp1, A1, n1, cp1, aV, aI, af, ae, hn1, hbp1, hov1, hF⟩ := hI
 exact ⟨_, rfl, rfl, _, aV, bp1, A1, n1, cp1, aI, af, ae, hn1, hbp1, hov1, hF⟩
theorem acH {bk bs : Nat} {st why tn last : Int} {ins : Bool} {q : Gs.vT} {w : World} (aV : Z.h w bk #[Z.p bs, Z.i st, Z.i why, Z.i tn, .bool ins, Z.u last] 95) (hst : 1 ≤ st ∧ st ≤ 3)  :
    oX 26 #[Z.p bk, .agg (Gs.re q).toArray] w fun e w' => ∃ v, e = .returned v ∧ ∃ (st' why' tn' last' : Int) (ins' : Bool), Z.h w' bk #[Z.p bs, Z.i st', Z.i why', Z.i tn', .bool ins', Z.u last'] 95 ∧ (1 ≤ st' ∧ st' ≤ 3) ∧ (q.rs = true → st' = 1 ∧ ins' = false) ∧ (q.rs = false → st' = st ∧ ins' = ins) ∧ az (· = bk) w w' := by
 refine F26.calls ?_
 unfold F26
 have hF : az (· = bk) w w := Fr.refl _ _ _
 refine Z.x ((Gs.re q).toArray) (fun b1 w1 e1 ah _ U1 => ?_)
 refine Z.f 1 ?_
 refine mQ (kK (by kernel_rfl) ah (by rfl)) (fun h2 => ?_) (fun h2 => ?_)
 refine aH ?_
 refine dm ?_
 refine Z.f 1 ?_
 replace aV := U1.ag aV
 refine aJ (Me aV hst) (fun v3 w3 D3 => ?_)
 obtain ⟨q9, why1, tn1, rfl, N3, U3⟩ := D3
 replace aV := N3
 replace hF := hF.go0 U1
 replace hF := hF.go U3 (fun i _ h => h)
 refine dm ?_
 refine Z.f 4 ?_
 refine Z.s aV (fun w4 aV _ U4 => ?_)
 replace hF := hF.go U4 (fun i _ h => h)
 refine dm ?_
 refine Z.f 5 ?_
 refine Z.s aV (fun w5 aV _ U5 => ?_)
 replace hF := hF.go U5 (fun i _ h => h)
 exact ⟨_, rfl, _, _, _, _, _, aV, (by decide : (1 : Int) ≤ 1 ∧ (1 : Int) ≤ 3), (fun _ => ⟨rfl, rfl⟩), (fun h => by simp_all), hF⟩
 refine aB ?_
 replace aV := U1.ag aV
 replace hF := hF.go0 U1
 exact ⟨_, rfl, _, _, _, _, _, aV, hst, (fun h => by simp_all), (fun _ => ⟨rfl, rfl⟩), hF⟩
theorem aez {s : Gs.jb} {A : Option Addr} {n cp bp bs B0 : Nat} {bk : Nat} {st why tn last : Int} {ins : Bool} {w : World} (aI : Z.h w bs #[Z.i s.r0, Z.i s.c0, Z.i s.r1, Z.i s.c1, Z.i s.wh, Z.p bp] 89) (af : Z.h w bp #[Z.i s.r, Z.i s.c, .slice A n cp, Z.i s.cur] 91) (ae : Own B0 w 37 5 (.slice A n cp) (rows Gs.cv s.cs)) (hS : Gs.Sw n s) (hB0 : B0 ≤ w.heap.size) (aV : Z.h w bk #[Z.p bs, Z.i st, Z.i why, Z.i tn, .bool ins, Z.u last] 95) {x : Int} (hxb : 0 ≤ x ∧ x ≤ 255) :
    oX 18 #[Z.p bk, .agg #[Z.i 17, Z.u x]] w fun e w' => ∃ v, e = .returned v ∧ ∃ (q : Bool) (e st' why' tn' last' : Int) (ins' : Bool), v = .tuple #[.bool q, Z.i e] ∧ ((q = true ∧ e = 0 ∧ st = 1 ∧ ¬ Gs.zh x = ⟨#[]⟩ ∧ st' = 2 ∧ ins' = false ∧ last' = x) ∨ (q = false ∧ ¬ e = 0 ∧ st' = st ∧ ins' = ins ∧ last' = last ∧ ¬ (st = 1 ∧ ¬ Gs.zh x = ⟨#[]⟩))) ∧ Z.h w' bk #[Z.p bs, Z.i st', Z.i why', Z.i tn', .bool ins', Z.u last'] 95 ∧ ∃ (bp' : Nat) (A' : Option Addr) (n' cp' : Nat), Z.h w' bs #[Z.i (if q = true ∧ x = 109 then Gs.bM s 0 else s).r0, Z.i (if q = true ∧ x = 109 then Gs.bM s 0 else s).c0, Z.i (if q = true ∧ x = 109 then Gs.bM s 0 else s).r1, Z.i (if q = true ∧ x = 109 then Gs.bM s 0 else s).c1, Z.i (if q = true ∧ x = 109 then Gs.bM s 0 else s).wh, Z.p bp'] 89 ∧ Z.h w' bp' #[Z.i (if q = true ∧ x = 109 then Gs.bM s 0 else s).r, Z.i (if q = true ∧ x = 109 then Gs.bM s 0 else s).c, .slice A' n' cp', Z.i (if q = true ∧ x = 109 then Gs.bM s 0 else s).cur] 91 ∧ Own B0 w' 37 5 (.slice A' n' cp') (rows Gs.cv (if q = true ∧ x = 109 then Gs.bM s 0 else s).cs) ∧ n' = (if q = true ∧ x = 109 then Gs.bM s 0 else s).cs.length ∧ (bp' = bp ∨ w.heap.size ≤ bp') ∧ (∀ k, aC (.slice A' n' cp') k → aC (.slice A n cp) k ∨ w.heap.size ≤ k) ∧ az (fun k => ((aC (.slice A n cp) k ∨ k = bp) ∨ k = bs) ∨ k = bk) w w' := by
 refine WR.calls ?_
 unfold WR
 have hW := hS.2
 obtain ⟨hn, hcw, hcu, hp, hN, hb⟩ := id hW
 have hF : az (fun k => ((aC (.slice A n cp) k ∨ k = bp) ∨ k = bs) ∨ k = bk) w w := Fr.refl _ _ _
 refine Z.x (#[Z.i 17, Z.u x]) (fun b1 w1 e1 ah _ U1 => ?_)
 refine Z.f 0 ?_
 refine Z.l ah ?_
 refine nM (dC _ _ _ _ _) (by decide) ?_
 refine aB ?_
 refine dm ?_
 refine Z.f 1 ?_
 replace aV := U1.ag aV
 refine aG (AV aV) (fun w2 U2 => ?_)
 obtain ⟨em, hem⟩ : ∃ em : Int, em = (if st = 1 then 0 else 40) := ⟨_, rfl⟩
 rw [← hem]
 have hem2 : (em = 0 → st = 1) ∧ (st = 1 → em = 0) := by subst hem; split <;> omega
 clear hem
 refine ay (kL _ _ _ _ _) (fun h3 => ?_) (fun h3 => ?_)
 refine aH ?_
 have e1 : (if (true : Bool) = true ∧ x = 109 then Gs.bM s 0 else s) = (if x = 109 then Gs.bM s 0 else s) := by simp
 have e0 : (if (false : Bool) = true ∧ x = 109 then Gs.bM s 0 else s) = s := by simp
 replace ae := (ae.ai U1).ai U2
 replace aI := U2.ag (U1.ag aI)
 replace af := U2.ag (U1.ag af)
 replace hF := (hF.go0 U1).go0 U2
 replace aV := U2.ag aV
 exact ⟨_, rfl, false, _, st, why, tn, last, ins, rfl, .inr ⟨rfl, (by assumption), rfl, rfl, rfl, (fun hq => by (have := hem2.2 hq.1; omega))⟩, aV, bp, A, n, cp, (by rw [e0]; exact aI), (by rw [e0]; exact af), (by rw [e0]; exact ae), (by rw [e0]; exact hn), .inl rfl, (fun k hk => .inl hk), hF⟩
 refine aB ?_
 replace ah := U2.ag ah
 refine Z.b 2 (#[Z.i 17, Z.u x]) ah ?_
 refine dS (MB (k := 17) hxb) (fun w5 U5 h5 => ?_) (fun w5 U5 h5 => ?_)
 simp only [Z.d, Z.c] at h5
 refine aj (lX) ?_
 refine aB ?_
 refine Z.f 0 ?_
 replace ah := U5.ag ah
 refine Z.l ah ?_
 refine zx (dC _ _ _ _ _) (rfl) ?_
 refine aH ?_
 refine Z.f 1 ?_
 refine Z.l ah ?_
 replace ae := ((ae.ai U1).ai U2).ai U5
 replace aI := U5.ag (U2.ag (U1.ag aI))
 replace af := U5.ag (U2.ag (U1.ag af))
 replace hF := ((hF.go0 U1).go0 U2).go0 U5
 replace aV := U5.ag (U2.ag aV)
 refine aJ (aaH aI af ae hS (by have := hF.size; omega) aV (x := x) (hem2.1 (Classical.not_not.1 (by assumption)))) (fun v6 w6 D6 => ?_)
 have qF6 := hF.size
 have qF36 := hF.size
 obtain ⟨rfl, tn36, aV, bp36, A36, n36, cp36, aI, acI, Xz, hn36, hb36, ho36, U6⟩ := D6
 replace hF := hF.go U6 (fun i hi hs => by exact hs)
 refine Z.e ?_
 refine Z.e ?_
 have e1 : (if (true : Bool) = true ∧ x = 109 then Gs.bM s 0 else s) = (if x = 109 then Gs.bM s 0 else s) := by simp
 have e0 : (if (false : Bool) = true ∧ x = 109 then Gs.bM s 0 else s) = s := by simp
 rw [← e1] at aI acI Xz hn36; exact ⟨_, rfl, true, 0, 2, 0, tn36, x, false, rfl, .inl ⟨rfl, rfl, hem2.1 (Classical.not_not.1 (by assumption)), ((show (1 ≤ (17 : Int) ∧ (17 : Int) < 17) ∨ (True ∧ ¬ Gs.zh x = ⟨#[]⟩) by assumption).resolve_left (by omega)).2, rfl, rfl, rfl⟩, aV, bp36, A36, n36, cp36, aI, acI, Xz, hn36, hb36.imp id (fun h => by omega), (fun k hk => (ho36 k hk).imp id (fun h => by omega)), hF⟩
 simp only [Z.d, Z.c] at h5
 refine aj (mV) ?_
 refine aH ?_
 have e1 : (if (true : Bool) = true ∧ x = 109 then Gs.bM s 0 else s) = (if x = 109 then Gs.bM s 0 else s) := by simp
 have e0 : (if (false : Bool) = true ∧ x = 109 then Gs.bM s 0 else s) = s := by simp
 replace ae := ((ae.ai U1).ai U2).ai U5
 replace aI := U5.ag (U2.ag (U1.ag aI))
 replace af := U5.ag (U2.ag (U1.ag af))
 replace hF := ((hF.go0 U1).go0 U2).go0 U5
 replace aV := U5.ag (U2.ag aV)
 exact ⟨_, rfl, false, _, st, why, tn, last, ins, rfl, .inr ⟨rfl, (by decide), rfl, rfl, rfl, (fun hq => by (have h17 : ¬ ((1 ≤ (17 : Int) ∧ (17 : Int) < 17) ∨ (True ∧ ¬ Gs.zh x = ⟨#[]⟩)) := (by assumption); exact h17 (.inr ⟨trivial, hq.2⟩)))⟩, aV, bp, A, n, cp, (by rw [e0]; exact aI), (by rw [e0]; exact af), (by rw [e0]; exact ae), (by rw [e0]; exact hn), .inl rfl, (fun k hk => .inl hk), hF⟩
end Go.Proofs.YtjdoakbadehicaaGreatDoor
end
section
namespace Gs
open Go Go.Sh
theorem _root_.Go.Sh.Bs.tail {x : Int} {l : List Int} (h : Bs (x :: l)) : Bs l := fun y hy => h y (List.mem_cons_of_mem _ hy)
theorem _root_.Go.Sh.Bs.head {x : Int} {l : List Int} (h : Bs (x :: l)) : 0 ≤ x ∧ x ≤ 255 := h x (List.mem_cons_self ..)
theorem UH {l r : List Int} {p : Int} (hb : Bs l) (h : kP l = .ok (p, r)) : Bs r := by
 unfold kP at h
 split at h
 ·cases h; exact hb.tail.tail
 ·cases h
theorem O6 {l r : List Int} {c : Int} (hb : Bs l) (h : fJ l = .ok (c, r)) : (0 ≤ c ∧ c ≤ 255) ∧ Bs r := by
 rw [dU h] at hb; exact ⟨hb.head, hb.tail⟩
theorem XN {l r : List Int} {c : Int} (hb : Bs l) (h : sG l = .ok (c, r)) : (0 ≤ c ∧ c ≤ 255) ∧ Bs r := by
 unfold sG at h
 split at h
 ·cases h
 ·split at h
  ·cases h
  ·cases h; exact ⟨hb.head, hb.tail⟩
theorem Lu {k : Int} : ∀ {n : Nat} {l r : List Int} {ps : List Pr}, Bs l → jQ k n l = .ok (ps, r) → Bs r
 | 0, l, r, ps, hb, h => by unfold jQ at h; cases h; exact hb
 | n + 1, l, r, ps, hb, h => by
  unfold jQ at h
  split at h
  ·split at h
   ·cases h
   ·split at h
    ·cases h
    ·rename_i h2
     cases h
     exact Lu hb.tail.tail h2
  ·cases h
theorem akX {l r : List Int} {p d : Int} {g : Bool} (hb : Bs l) (h : sV l = .ok ((p, d, g), r)) : (0 ≤ d ∧ d ≤ 255) ∧ Bs r := by
 unfold sV at h
 split at h
 ·cases h
 ·rename_i h1
  have := UH hb h1
  split at h
  ·cases h
  ·rename_i h2
   have := O6 this h2
   split at h
   ·split at h
    ·cases h
    ·rename_i h3
     have := XN this.2 h3
     cases h; exact this
   ·split at h
    ·cases h; exact this
    ·cases h
theorem akY {l r : List Int} {x : iU} (hb : Bs l) (h : jD l = .ok (x, r)) : ((0 ≤ x.b ∧ x.b ≤ 255) ∧ Bs x.ds) ∧ Bs r := by
 unfold jD at h
 split at h
 ·cases h
 ·rename_i c r0
  have z : (0 : Int) ≤ 0 ∧ (0 : Int) ≤ 255 := by decide
  split at h
  ·cases h
   exact ⟨⟨z, fun y hy => hb y ((List.takeWhile_sublist _).subset hy)⟩, fun y hy => hb y ((List.dropWhile_sublist _).subset hy)⟩
  split at h
  ·split at h
   ·cases h
   ·rename_i h1; cases h; exact ⟨⟨z, Bs.nil⟩, UH hb.tail h1⟩
  split at h
  ·split at h
   ·cases h
   ·rename_i h1; cases h; have := O6 hb.tail h1; exact ⟨⟨by dsimp only; omega, Bs.nil⟩, this.2⟩
  split at h
  ·split at h
   ·cases h
   ·rename_i h1
    split at h
    ·cases h
    ·rename_i h2; cases h; exact ⟨⟨z, Bs.nil⟩, Lu (O6 hb.tail h1).2 h2⟩
  split at h
  ·split at h
   ·cases h
   ·rename_i h2; cases h; exact ⟨⟨z, Bs.nil⟩, Lu hb.tail h2⟩
  split at h
  ·cases h; exact ⟨⟨z, Bs.nil⟩, hb.tail⟩
  split at h
  ·split at h
   ·cases h
   ·rename_i h1; cases h; have := akX hb.tail h1; exact ⟨⟨this.1, Bs.nil⟩, this.2⟩
  split at h
  ·split at h
   ·cases h
   ·rename_i h1; cases h; have := XN hb.tail h1; exact ⟨⟨this.1, Bs.nil⟩, this.2⟩
  ·cases h
theorem Qn : ∀ (m : Nat) (l : List Int), l.length ≤ m → Bs l → rZ (jl l).1
 | 0, l, hl, _ => by
  obtain rfl := List.length_eq_zero_iff.1 (Nat.le_zero.1 hl)
  rw [wW]; exact fun o h => by cases h
 | m + 1, l, hl, hb => by
  by_cases h0 : l = []
  ·subst h0; rw [wW]; exact fun o h => by cases h
  ·cases h : jD l with
   | error e => rw [IU h0 h]; exact fun o h => by cases h
   | ok x =>
    obtain ⟨x, r⟩ := x
    rw [IV h0 h]
    have h1 := akY hb h
    have h2 := Lj h
    intro o ho
    rcases List.mem_cons.1 ho with rfl | ho
    ·exact h1.1
    ·exact Qn m r (by omega) h1.2 o ho
def CmW (c : qP) : Prop := rZ c.c.os ∧ ∀ f ∈ c.fs, rZ f.c.os
theorem rZ.nil : rZ [] := fun o h => by cases h
theorem akZ {P : List Int → qP × Int} (hP : ∀ b, Bs b → CmW (P b).1) {b : List Int} {f : rY} (hb : Bs b) (h : DY P b = some f) : rZ f.c.os := by
 unfold DY at h
 split at h
 ·rename_i x r
  split at h
  ·unfold Dk at h
   split at h
   ·split at h
    ·cases h; exact rZ.nil
    ·cases h
   ·cases h
  split at h
  ·unfold zQ at h
   split at h
   ·split at h
    ·cases h; exact rZ.nil
    ·cases h
   ·cases h
  split at h
  ·unfold writeM' at h
   split at h
   ·rename_i y z t
    split at h
    ·cases h
     exact (hP (z :: t) hb.tail.tail).1
    ·cases h
   ·cases h
  ·cases h
 ·cases h
theorem ak0 {l x r : List Int} (hb : Bs l) (h : Aj l = some (x, r)) : Bs x ∧ Bs r := by
 unfold Aj at h
 split at h
 ·split at h
  ·cases h
  ·cases h
   exact ⟨fun y hy => hb y (List.mem_of_mem_drop (List.mem_of_mem_take hy)), fun y hy => hb y (List.mem_of_mem_drop hy)⟩
 ·cases h
theorem Qo {P : List Int → qP × Int} (hP : ∀ b, Bs b → CmW (P b).1) : ∀ (m : Nat) (b : List Int), b.length ≤ m → Bs b → ∀ f ∈ (jH P b).1, rZ f.c.os
 | 0, b, hl, _, f, hf => by
  obtain rfl := List.length_eq_zero_iff.1 (Nat.le_zero.1 hl)
  rw [rO] at hf; cases hf
 | m + 1, b, hl, hb, f, hf => by
  by_cases h0 : b = []
  ·subst h0; rw [rO] at hf; cases hf
  ·rw [jH, if_neg h0] at hf
   split at hf
   ·cases hf
   ·rename_i x r hc
    have hl2 := uZ hc
    have hw := ak0 hb hc
    split at hf
    ·cases hf
    ·rename_i g hg
     rcases List.mem_cons.1 hf with rfl | hf
     ·exact akZ hP hw.1 hg
     ·exact Qo hP m r (by omega) hw.2 f hf
theorem Qp : ∀ (N : Nat) (b : List Int), Bs b → CmW (iL N b).1
 | 0, b, _ => ⟨rZ.nil, fun f h => by cases h⟩
 | N + 1, b, hb => by
  unfold iL
  split
  ·exact ⟨rZ.nil, fun f h => by cases h⟩
  ·rename_i x r
   split
   ·exact ⟨rZ.nil, fun f h => by cases h⟩
   ·split
    ·split
     ·exact ⟨rZ.nil, fun f h => by cases h⟩
     ·rename_i w r'
      exact ⟨Qn r'.length r' (Nat.le_refl _) hb.tail.tail, fun f h => by cases h⟩
    ·split
     ·exact ⟨rZ.nil, fun f hf => Qo (Qp N) r.length r (Nat.le_refl _) hb.tail f hf⟩
     ·exact ⟨rZ.nil, fun f h => by cases h⟩
theorem Sw.tK {n : Nat} {s : jb} (h : Sw n s) {c : qP} (hw : CmW c) : Sw (Gs.Ae s c).1.cs.length (Gs.Ae s c).1 := by
 unfold Gs.Ae
 split
 ·exact h.fields hw.2
 ·exact h.XO hw.1
theorem Sw.run {n : Nat} {s : jb} (h : Sw n s) {b : List Int} (hb : Bs b) : Sw (CU s b).1.cs.length (CU s b).1 := by
 unfold CU EZ
 split
 ·exact h.tK (Qp _ _ hb)
 ·exact h.len
def One (r c : Int) (s : jb) : Prop := (s.r0 = r ∧ s.c0 = c) ∧ (s.r1 = r ∧ s.c1 = c) ∧ s.r = r ∧ s.c = c
section
variable {r c : Int} {s : jb}
theorem One.renew (h : One r c s) (wh : Int) : One r c (bM s wh) := by
 obtain ⟨⟨rfl, rfl⟩, ⟨h1, h2⟩, h3, h4⟩ := h
 unfold bM
 split
 ·exact ⟨⟨rfl, rfl⟩, ⟨h1, h2⟩, rfl, rfl⟩
 ·exact ⟨⟨rfl, rfl⟩, ⟨h1, h2⟩, h1, h2⟩
theorem One.erase (h : One r c s) (x : su) (wh : Int) : One r c (iW s x wh).1 := h.renew wh
theorem One.XO (h : One r c s) (x : su) : One r c (pz s x).1 := by
 unfold pz
 split
 ·exact h
 split
 ·exact h.erase x 0
 split
 ·exact h.erase x 1
 split
 ·exact h
 split <;> exact h
theorem One.field (h : One r c s) (f : rY) : One r c (gB s f).1 := by
 unfold gB
 split
 ·exact h
 split
 ·exact h.renew _
 ·exact h.XO _
theorem One.fields {e : Int} : ∀ {fs : List rY} {s : jb} {o : vT}, One r c s → One r c (lm e fs s o).1
 | [], s, o, h => h
 | f :: fs, s, o, h => by
  unfold lm
  split
  ·exact One.fields (h.field f)
  ·exact h.field f
theorem One.run (h : One r c s) (b : List Int) : One r c (CU s b).1 := by
 unfold CU
 split
 ·unfold Gs.Ae
  split
  ·exact h.fields
  ·exact h.XO _
 ·exact h
end
structure lL where
 A : Option Addr
 cp : Nat
 b : List Int
 k : Int
 x : Int
def de (d : lL) : List Value := [.slice d.A d.b.length d.cp, .int .i64 d.k, .int .u8 d.x]
theorem afV : Enc de 3 := ⟨fun _ => rfl, fun a u hu => by
 simp only [de, List.mem_cons, List.mem_nil_iff, or_false] at hu
 rcases hu with rfl | rfl | rfl <;> rfl, by decide⟩
def Dw1 (d : lL) : Prop := d.b.length ≤ d.cp ∧ Bs d.b ∧ (0 ≤ d.x ∧ d.x ≤ 255)
def MC (l : List lL) : Prop := ∀ d ∈ l, Dw1 d
theorem MC.get {l : List lL} (h : MC l) {k : Nat} {x : lL} (hx : l[k]? = some x) : Dw1 x := h x (List.mem_of_getElem? hx)
def ut (w : World) (l : List lL) : Prop := ∀ d ∈ l, Rd w d.A (vals .u8 d.b)
def UI (l : List lL) (k : Nat) : Prop := ∃ d ∈ l, d.b ≠ [] ∧ fO d.A k
def XA (l : List lL) (B : Nat) : Prop := l = [] ∨ ∀ k, UI l k → k < B
theorem XA.ne {l : List lL} {B : Nat} (h : XA l B) {b : Nat} (hb : B ≤ b) : l = [] ∨ ∀ k, UI l k → k ≠ b := h.imp_right fun h k hk => by have := h k hk; omega
theorem ut.lt {w : World} {l : List lL} (h : ut w l) : XA l w.heap.size := .inr fun k ⟨d, hd, hne, hk⟩ => by
 rcases (h d hd).lt with h2 | h2
 ·exact absurd (List.map_eq_nil_iff.1 h2) hne
 ·exact h2 k hk
theorem ut.eH {S : Nat → Prop} {w w' : World} {l : List lL} (h : ut w l) (u : az S w w') (hs : l = [] ∨ ∀ k, UI l k → ¬ S k) : ut w' l := by
 intro d hd
 by_cases hne : d.b = []
 ·rw [hne]; exact .inl rfl
 ·refine (h d hd).eH u ?_
  rcases hs with rfl | hs
  ·cases hd
  ·exact .inr fun k hk => hs k ⟨d, hd, hne, hk⟩
theorem ut.ai {w w' : World} {l : List lL} (h : ut w l) (u : az no w w') : ut w' l := h.eH u (.inr fun _ _ => id)
theorem ut.aA {w w' : World} {l : List lL} {b : Nat} (h : ut w l) (u : az (· = b) w w') (hs : l = [] ∨ ∀ k, UI l k → k ≠ b) : ut w' l := h.eH u hs
theorem ut.apart {w : World} {l : List lL} (h : ut w l) {b : Nat} (hb : b = w.heap.size) : l = [] ∨ ∀ k, UI l k → k ≠ b := h.lt.imp_right fun h k hk => by have := h k hk; omega
theorem ut.get {w : World} {l : List lL} (h : ut w l) {k : Nat} {x : lL} (hx : l[k]? = some x) : Rd w x.A (vals .u8 x.b) := h x (List.mem_of_getElem? hx)
theorem Uk {l : List lL} {i : Nat} {x : lL} {S : Nat → Prop} (h : l = [] ∨ ∀ k, UI l k → S k) (hx : l[i]? = some x) : vals .u8 x.b = [] ∨ ∀ k, fO x.A k → S k := by
 by_cases hne : x.b = []
 ·left; rw [hne]; rfl
 ·right
  intro k hk
  rcases h with rfl | h
  ·simp at hx
  ·exact h k ⟨x, List.mem_of_getElem? hx, hne, hk⟩
end Gs
namespace Gs
open Go Go.Sh
theorem Sw.ifr {n : Nat} {s : jb} (h : Sw n s) (p : Prop) [Decidable p] : Sw (if p then bM s 0 else s).cs.length (if p then bM s 0 else s) := by
 split
 ·exact h.renew 0
 ·exact h.len
theorem One.ifr {r c : Int} {s : jb} (h : One r c s) (p : Prop) [Decidable p] : One r c (if p then bM s 0 else s) := by
 split
 ·exact h.renew 0
 ·exact h
def aeE (r c : Int) : jb := ⟨r, c, r, c, 0, r, c, Gm r c, 0⟩
theorem aeD (r c : Int) : One r c (aeE r c) := ⟨⟨rfl, rfl⟩, ⟨rfl, rfl⟩, rfl, rfl⟩
theorem ako {r c : Int} (h : aU r c ≠ 0) : Sw (aU r c).toNat (aeE r c) := ⟨⟨h, h⟩, Pw.new h⟩
def Ei (r c : Int) (ds : List lL) : Prop := aU r c ≠ 0 ∧ aU r c ≤ 60 ∧ ds.length ≤ 20 ∧ ∀ d ∈ ds, d.b.length ≤ 150
theorem Ei.no {r c : Int} {ds : List lL} {k : Nat} {d : lL} (h : ds[k]? = some d) (hd : 150 < d.b.length) : ¬ Ei r c ds := fun h2 => by
 have := h2.2.2.2 d (List.mem_of_getElem? h); omega
def upto (ds : List lL) (k : Nat) : Prop := ∀ d ∈ ds.take k, d.b.length ≤ 150
theorem akp (ds : List lL) : upto ds 0 := fun d h => by rw [List.take_zero] at h; cases h
theorem P6 {ds : List lL} {k : Nat} {x : lL} (h : upto ds k) (hx : ds[k]? = some x) (hl : x.b.length ≤ 150) : upto ds (k + 1) := fun d hd => by
 rw [List.take_add_one, hx] at hd
 rcases List.mem_append.1 hd with hd | hd
 ·exact h d hd
 ·rw [show d = x by simpa using hd]; exact hl
theorem upto_all {ds : List lL} {k : Nat} (h : upto ds k) (hk : ds.length ≤ k) : ∀ d ∈ ds, d.b.length ≤ 150 := fun d hd => h d (by rw [List.take_of_length_le hk]; exact hd)
end Gs
namespace Go.Sh
open Go
theorem IL.OU {A : Option Addr} {xs ys : List Value} {B : Nat} {w : World} {e size : Nat} {v : Value} (h : IL A xs B) (o : Own B w e size v ys) : xs = [] ∨ ∀ k, fO A k → ¬ aC v k := h.imp_right fun h k hk hs => by
 have := h k hk
 have := (Own.ge o hs).1
 omega
theorem _root_.Gs.XA.OU {l : List Gs.lL} {ys : List Value} {B : Nat} {w : World} {e size : Nat} {v : Value} (h : Gs.XA l B) (o : Own B w e size v ys) : l = [] ∨ ∀ k, Gs.UI l k → ¬ aC v k := h.imp_right fun h k hk hs => by
 have := h k hk
 have := (Own.ge o hs).1
 omega
end Go.Sh
namespace Gs
open Go Go.Sh
def kv (a : Int × Int) : List Value := [.int .i64 a.1, .int .u8 a.2]
def Kw (a : Int × Int) : Prop := 0 ≤ a.2 ∧ a.2 ≤ 255
end Gs
end
section
namespace Go.Proofs.YtjdoakbadehicaaGreatDoor
open Go Go.Sh
set_option maxRecDepth 100000
theorem aeA {s : Gs.jb} {A : Option Addr} {n cp bp bs B0 : Nat} {bk : Nat} {st why tn last : Int} {ins : Bool} {w : World} (aI : Z.h w bs #[Z.i s.r0, Z.i s.c0, Z.i s.r1, Z.i s.c1, Z.i s.wh, Z.p bp] 89) (af : Z.h w bp #[Z.i s.r, Z.i s.c, .slice A n cp, Z.i s.cur] 91) (ae : Own B0 w 37 5 (.slice A n cp) (rows Gs.cv s.cs)) (hS : Gs.Sw n s) (hB0 : B0 ≤ w.heap.size) (aV : Z.h w bk #[Z.p bs, Z.i st, Z.i why, Z.i tn, .bool ins, Z.u last] 95) {k x : Int} (hxb : 0 ≤ x ∧ x ≤ 255) (hst : 1 ≤ st ∧ st ≤ 3) {r c : Int} (hone : Gs.One r c s) :
    oX 18 #[Z.p bk, .agg #[Z.i k, Z.u x]] w fun e w' => ∃ v, e = .returned v ∧ ∃ (st' why' tn' last' : Int) (ins' : Bool) (s' : Gs.jb) (bp' : Nat) (A' : Option Addr) (n' cp' : Nat), (1 ≤ st' ∧ st' ≤ 3) ∧ Gs.Sw n' s' ∧ Gs.One r c s' ∧ Z.h w' bk #[Z.p bs, Z.i st', Z.i why', Z.i tn', .bool ins', Z.u last'] 95 ∧ Z.h w' bs #[Z.i s'.r0, Z.i s'.c0, Z.i s'.r1, Z.i s'.c1, Z.i s'.wh, Z.p bp'] 89 ∧ Z.h w' bp' #[Z.i s'.r, Z.i s'.c, .slice A' n' cp', Z.i s'.cur] 91 ∧ Own B0 w' 37 5 (.slice A' n' cp') (rows Gs.cv s'.cs) ∧ (bp' = bp ∨ w.heap.size ≤ bp') ∧ (∀ k, aC (.slice A' n' cp') k → aC (.slice A n cp) k ∨ w.heap.size ≤ k) ∧ az (fun k => ((aC (.slice A n cp) k ∨ k = bp) ∨ k = bs) ∨ k = bk) w w' := by
 by_cases hk : k = 17
 subst hk
 refine (aez aI af ae hS hB0 aV hxb).mono fun e w' D => ?_
 obtain ⟨v, hv, q, er, st', why', tn', last', ins', -, hd, hbk, bp', A', n', cp', h1, h2, h3, h4, h5, h6, hU⟩ := D
 exact ⟨v, hv, st', why', tn', last', ins', _, bp', A', n', cp', by omega, h4 ▸ hS.ifr _, hone.ifr _, hbk, h1, h2, h3, h5, h6, hU⟩
 refine (adU af ae hS.2 aV aI hxb hk hst).mono fun e w' D => ?_
 obtain ⟨v, hv, er, st', why', tn', ins', c1, cur1, -, hs, hW, -, h1, h2, h3, hU⟩ := D
 exact ⟨v, hv, st', why', tn', last, ins', { s with cs := c1, cur := cur1 }, bp, A, n, cp, hs, ⟨hS.1, hW⟩, hone, h3, hU.get aI (fun hs => by
   rcases hs with (hs | hs) | hs
   · have := au aI; exact Own.aP ae aI (by decide) _ hs rfl
   · subst hs; have e := Option.some.inj (aI.symm.trans af); injection e with e1 e2; exact absurd e2 (by decide)
   · subst hs; have e := Option.some.inj (aI.symm.trans aV); injection e with e1 e2; exact absurd e2 (by decide)), h1, h2, .inl rfl, fun k hk => .inl hk, hU.mono (Nat.le_refl _) (fun i _ h => h.elim (fun h => .inl (.inl h)) .inr)⟩
theorem aaI {r0 c0 r1 c1 : Int} {w : World} (hz : Gs.aU r0 c0 = 0) :
    oX 12 #[.agg #[Z.i r0, Z.i c0], .agg #[Z.i r1, Z.i c1]] w fun e w' => e = .returned (.tuple #[.pointer none, Z.i 1]) ∧ az no w w' := by
 refine WU.calls ?_
 unfold WU
 have hF : az no w w := Fr.refl _ _ _
 refine Z.x (#[Z.i r0, Z.i c0]) (fun b1 w1 e1 ah _ U1 => ?_)
 refine Z.x (#[Z.i r1, Z.i c1]) (fun b2 w2 e2 ax _ U2 => ?_)
 replace ah := U2.ag ah
 refine Z.b 2 (#[Z.i r0, Z.i c0]) ah ?_
 refine aG (qF (r := r0) (c := c0)) (fun w3 U3 => ?_)
 refine zx (dC _ _ _ _ _) (hz) ?_
 refine bI (bI (bI (bu (aH ?_))))
 replace hF := ((hF.go0 U1).go0 U2).go0 U3
 exact ⟨rfl, hF⟩
theorem Uj {r c : Int} {ds : List Gs.lL} {dA : Option Addr} {dc : Nat} {w : World} (hz : Gs.aU r c = 0) :
    oX 22 #[.agg #[Z.i r, Z.i c], .slice dA ds.length dc] w fun e w' => e = .returned (.tuple #[.pointer none, .pointer none, .bool false]) ∧ az no w w' := by
 refine Xa.calls ?_
 unfold Xa
 have hF : az no w w := Fr.refl _ _ _
 refine Z.x (#[Z.i r, Z.i c]) (fun b1 w1 e1 ah _ U1 => ?_)
 refine Z.b 2 (#[Z.i r, Z.i c]) ah ?_
 refine Z.b 2 (#[Z.i r, Z.i c]) ah ?_
 refine aG (aaI (r1 := r) (c1 := c) hz) (fun w2 U2 => ?_)
 refine Z.e ?_
 refine Z.e ?_
 refine zx (kL _ _ _ _ _) (by decide) ?_
 refine bI (bI (bI (bI (bu (bI (bI (bI (bu (aH ?_)))))))))
 replace hF := (hF.go0 U1).go0 U2
 exact ⟨rfl, hF⟩
set_option maxHeartbeats 4000000 in
theorem IK {r c : Int} {ds : List Gs.lL} {dA : Option Addr} {dc : Nat} {w : World} (lT : Rd w dA (rows Gs.de ds)) (lU : Gs.ut w ds) (hdw : Gs.MC ds) (hdn : ds.length ≤ maxLen) (hz : Gs.aU r c ≠ 0) :
    oX 22 #[.agg #[Z.i r, Z.i c], .slice dA ds.length dc] w fun e w' => ∃ v, e = .returned v ∧ ((¬ Gs.Ei r c ds ∧ v = .tuple #[.pointer none, .pointer none, .bool false] ∧ az no w w') ∨ (Gs.Ei r c ds ∧ ∃ (s : Gs.jb) (bs bk bp : Nat) (A : Option Addr) (n cp : Nat) (st why tn last : Int) (ins : Bool), v = .tuple #[Z.p bs, Z.p bk, .bool true] ∧ w.heap.size ≤ bs ∧ w.heap.size ≤ bk ∧ w.heap.size ≤ bp ∧ (1 ≤ st ∧ st ≤ 3) ∧ Gs.Sw n s ∧ Gs.One r c s ∧ n ≤ 60 ∧ Z.h w' bk #[Z.p bs, Z.i st, Z.i why, Z.i tn, .bool ins, Z.u last] 95 ∧ Z.h w' bs #[Z.i s.r0, Z.i s.c0, Z.i s.r1, Z.i s.c1, Z.i s.wh, Z.p bp] 89 ∧ Z.h w' bp #[Z.i s.r, Z.i s.c, .slice A n cp, Z.i s.cur] 91 ∧ Own w.heap.size w' 37 5 (.slice A n cp) (rows Gs.cv s.cs) ∧ az no w w')) := by
 refine Xa.calls ?_
 unfold Xa
 obtain ⟨B0, hB0⟩ : ∃ B, B = w.heap.size := ⟨_, rfl⟩
 have hldd : IL dA (rows Gs.de ds) B0 := hB0 ▸ lT.lt
 have hlde : Gs.XA ds B0 := hB0 ▸ lU.lt
 have hcb := Gs.zn r c
 have hF : az no w w := Fr.refl _ _ _
 refine Z.x (#[Z.i r, Z.i c]) (fun b1 w1 e1 ah _ U1 => ?_)
 refine Z.b 2 (#[Z.i r, Z.i c]) ah ?_
 refine Z.b 2 (#[Z.i r, Z.i c]) ah ?_
 refine aJ (aaJ (r0 := r) (c0 := c) (r1 := r) (c1 := c) hz hz) (fun v2 w2 D2 => ?_)
 obtain ⟨bs, bp, gg, rfl, gbs, gbp, aI, af, ae, U2⟩ := D2
 replace hF := hF.go0 U1
 have ajI := hF.size
 have gBs : B0 ≤ bs := by omega
 have gBp : B0 ≤ bp := by omega
 replace lT := lT.ai U1
 have PY := (lT.lt).ne (b := bs) (by omega)
 replace lU := lU.ai U1
 have PZ := (lU.lt).ne (b := bs) (by omega)
 replace ae := ae.mono (B' := w.heap.size) hF.size
 refine Z.e ?_
 refine Z.e ?_
 refine nM (kL _ _ _ _ _) (fun h => h rfl) ?_
 refine bP (bP ?_)
 refine aG (zC aI) (fun w3 U3 => ?_)
 refine bP ?_
 replace ae := ae.ai U3
 replace af := U3.ag af
 refine aG (eY af ae List.length_replicate.symm) (fun w4 U4 => ?_)
 refine bP ?_
 refine ay (gtr _ _ _ _) (fun h5 => ?_) (fun h5 => ?_)
 refine bG (bI (bI (bI (bu (aH ?_)))))
 replace hF := ((hF.go0 U2).go0 U3).go0 U4
 exact ⟨_, rfl, .inl ⟨fun hd => by have := hd.2.1; have := hd.2.2.1; omega, rfl, hF⟩⟩
 refine bG (bP (bP ?_))
 refine aj (gm (by kernel_rfl) _ _ _) ?_
 refine bP ?_
 refine ay (gtr _ _ _ _) (fun h7 => ?_) (fun h7 => ?_)
 refine bG (aH ?_)
 replace hF := ((hF.go0 U2).go0 U3).go0 U4
 exact ⟨_, rfl, .inl ⟨fun hd => by have := hd.2.1; have := hd.2.2.1; omega, rfl, hF⟩⟩
 refine bG (aB ?_)
 refine aJ (aeB (bs := bs)) (fun v9 w9 D9 => ?_)
 obtain ⟨bk, rfl, gbk, aV, U9⟩ := D9
 replace hF := ((hF.go0 U2).go0 U3).go0 U4
 have gBk : B0 ≤ bk := by have := hF.size; omega
 replace lT := ((lT.ai U2).ai U3).ai U4
 have Af := (lT.lt).ne (b := bk) (by omega)
 replace lU := ((lU.ai U2).ai U3).ai U4
 have Ag := (lU.lt).ne (b := bk) (by omega)
 replace aI := U4.ag (U3.ag aI)
 have Gq : bs ≠ bk := by have := au aI; omega
 replace af := U4.ag af
 have aeC : bp ≠ bk := by have := au af; omega
 replace ae := ae.ai U4
 have V5 : ∀ k, aC _ k → k ≠ bk := fun k hk => by have := (Own.ge ae hk).2; omega
 have Q3 : w.heap.size ≤ bk := by have := hF.size; omega
 refine aG (acJ aV) (fun w10 aT => ?_)
 replace aV := aT.ag aV
 refine aJ (zB aV) (fun v11 oz D11 => ?_)
 obtain ⟨t35, N11, bK⟩ := D11
 replace aV := N11
 replace ae := ((ae.ai U9).ai aT).aA bK V5
 replace ae := ae.mono (B' := B0) (by omega)
 have hS := Gs.ako hz
 have hone := Gs.aeD r c
 have hst0 : (1 : Int) ≤ 1 ∧ (1 : Int) ≤ 3 := by decide
 refine bH (fun g w' => ∃ (s1 : Gs.jb) (bp1 : Nat) (A1 : Option Addr) (n1 : Nat) (cp1 : Nat) (st1 : Int) (why1 : Int) (tn1 : Int) (last1 : Int) (ins1 : Bool), (Gs.upto ds ds.length) ∧ (Gs.Sw n1 s1) ∧ (Gs.One r c s1) ∧ (1 ≤ st1 ∧ st1 ≤ 3) ∧ (B0 ≤ bp1) ∧ (Z.h w' bs #[Z.i s1.r0, Z.i s1.c0, Z.i s1.r1, Z.i s1.c1, Z.i s1.wh, Z.p bp1] 89) ∧ (Z.h w' bp1 #[Z.i s1.r, Z.i s1.c, .slice A1 n1 cp1, Z.i s1.cur] 91) ∧ (Own B0 w' 37 5 (.slice A1 n1 cp1) (rows Gs.cv s1.cs)) ∧ (Z.h w' bk #[Z.p bs, Z.i st1, Z.i why1, Z.i tn1, .bool ins1, Z.u last1] 95) ∧ (Rd w' dA (rows Gs.de ds)) ∧ (Gs.ut w' ds) ∧ (az no w w')) (fun J1 hJ1 => ?_) (fun gJ1 jX hI => ?_)
 refine aj (gm (by kernel_rfl) _ _ _) ?_
 refine dW (fun g w' => ∃ (k : Nat) (s1 : Gs.jb) (bp1 : Nat) (A1 : Option Addr) (n1 : Nat) (cp1 : Nat) (st1 : Int) (why1 : Int) (tn1 : Int) (last1 : Int) (ins1 : Bool), (g 38 = Z.i (k : Int)) ∧ (k ≤ ds.length) ∧ (Gs.upto ds k) ∧ (Gs.Sw n1 s1) ∧ (Gs.One r c s1) ∧ (1 ≤ st1 ∧ st1 ≤ 3) ∧ (B0 ≤ bp1) ∧ (Z.h w' bs #[Z.i s1.r0, Z.i s1.c0, Z.i s1.r1, Z.i s1.c1, Z.i s1.wh, Z.p bp1] 89) ∧ (Z.h w' bp1 #[Z.i s1.r, Z.i s1.c, .slice A1 n1 cp1, Z.i s1.cur] 91) ∧ (Own B0 w' 37 5 (.slice A1 n1 cp1) (rows Gs.cv s1.cs)) ∧ (Z.h w' bk #[Z.p bs, Z.i st1, Z.i why1, Z.i tn1, .bool ins1, Z.u last1] 95) ∧ (Rd w' dA (rows Gs.de ds)) ∧ (Gs.ut w' ds) ∧ (az no w w')) (fun g w' => ds.length - (RowKit.intOf (g 38)).toNat) ?_ (fun g2 qj hI => ?_)
 replace lT := ((lT.ai U9).ai aT).aA bK Af
 replace lU := ((lU.ai U9).ai aT).aA bK Ag
 replace aI := bK.ak (aT.ag (U9.ag aI)) Gq
 replace af := bK.ak (aT.ag (U9.ag af)) aeC
 replace hF := ((hF.go0 U9).go0 aT).go1 bK Q3
 exact ⟨0, Gs.aeE r c, bp, _, _, _, 1, 0, _, 96, false, (by rfl), Nat.zero_le _, (Gs.akp ds), hS, hone, hst0, gBp, aI, af, ae, aV, lT, lU, hF⟩
 replace lT := ((lT.ai U9).ai aT).aA bK Af
 replace lU := ((lU.ai U9).ai aT).aA bK Ag
 replace aI := bK.ak (aT.ag (U9.ag aI)) Gq
 replace hF := ((hF.go0 U9).go0 aT).go1 bK Q3
 obtain ⟨k, s1, bp1, A1, n1, cp1, st1, why1, tn1, last1, ins1, g38, hk, hup, hS1, hone1, hst1, gBp1, aI, nR, jv, aV, lT, lU, hF⟩ := hI
 rw [g38]
 refine ay (lss _ _ _ _) (fun h12 => ?_) (fun h12 => ?_)
 refine aH ?_
 refine bH (fun g w' => ∃ (s2 : Gs.jb) (bp2 : Nat) (A2 : Option Addr) (n2 : Nat) (cp2 : Nat) (st2 : Int) (why2 : Int) (tn2 : Int) (last2 : Int) (ins2 : Bool), (Z.h w' bs #[Z.i s2.r0, Z.i s2.c0, Z.i s2.r1, Z.i s2.c1, Z.i s2.wh, Z.p bp2] 89) ∧ (Z.h w' bp2 #[Z.i s2.r, Z.i s2.c, .slice A2 n2 cp2, Z.i s2.cur] 91) ∧ (Own B0 w' 37 5 (.slice A2 n2 cp2) (rows Gs.cv s2.cs)) ∧ (Z.h w' bk #[Z.p bs, Z.i st2, Z.i why2, Z.i tn2, .bool ins2, Z.u last2] 95) ∧ (Gs.upto ds (k + 1)) ∧ (Gs.Sw n2 s2) ∧ (Gs.One r c s2) ∧ (1 ≤ st2 ∧ st2 ≤ 3) ∧ (B0 ≤ bp2) ∧ (Rd w' dA (rows Gs.de ds)) ∧ (Gs.ut w' ds) ∧ (az no w w')) (fun J3 hJ3 => ?_) (fun gJ3 Ha hI => ?_)
 refine pK Gs.afV (by kernel_rfl) (by kernel_rfl) lT (by rfl) (by omega) (by omega) (fun WN BQ => ?_)
 simp only [Int.toNat_natCast] at BQ
 have hdx := hdw.get BQ
 refine Z.n (#[.slice none 0 0, Z.i 0, Z.u 0]) (fun b14 sJ e14 dR _ dw => ?_)
 have Ad : bs ≠ b14 := by have := au aI; omega
 have Nh : bp1 ≠ b14 := by have := au nR; omega
 have Hm := jv.apart e14
 have P5 : bk ≠ b14 := by have := au aV; omega
 have Nj := lT.apart e14
 have Nk := lU.apart e14
 have pg : w.heap.size ≤ b14 := by have := hF.size; omega
 refine Z.t 3 ((Gs.de WN).toArray) (by (simp [Value.cells, Value.oneCell', Gs.cv, Gs.fv, Gs.ie, Gs.pe, Gs.oe, Gs.bT, Gs.fe, Gs.fC, Gs.ce, Gs.dX, Gs.re, Gs.de]; done)) dR (fun uN dR _ dH => ?_)
 refine Z.f 0 ?_
 refine Z.l dR ?_
 refine aj (gm (by kernel_rfl) _ _ _) ?_
 refine ay (gtr _ _ _ _) (fun h16 => ?_) (fun h16 => ?_)
 refine aH ?_
 replace hF := (hF.go0 dw).go1 dH pg
 exact ⟨_, rfl, .inl ⟨Gs.Ei.no BQ (by omega), rfl, hF⟩⟩
 refine aB ?_
 refine Z.f 0 ?_
 refine Z.l dR ?_
 refine aj (gm (by kernel_rfl) _ _ _) ?_
 refine ay (gtr _ _ _ _) (fun h18 => ?_) (fun h18 => ?_)
 refine aH ?_
 refine Z.f 0 ?_
 refine Z.l dR ?_
 replace jv := (jv.ai dw).aA dH Hm
 replace lU := (lU.ai dw).aA dH Nk
 replace aI := dH.ak (dw.ag aI) Ad
 replace nR := dH.ak (dw.ag nR) Nh
 replace hF := (hF.go0 dw).go1 dH pg
 refine aJ (acG (b := WN.b) aI nR jv hS1 (by have := hF.size; omega) (lU.get BQ) rfl hdx.1 hdx.2.1 (by omega) (Gs.Uk (hlde.OU jv) BQ) (Gs.Uk (hlde.ne gBp1) BQ) (Gs.Uk (hlde.ne gBs) BQ)) (fun v19 yK D19 => ?_)
 have qK := jv
 have adG := hF.size
 have aoK := hF.size
 obtain ⟨rfl, bp54, A54, n54, cp54, aI, CS, wu, hn54, hb54, ho54, eu⟩ := D19
 replace aV := dH.ak (dw.ag aV) P5
 replace aV := eu.get aV (fun hs => by rcases hs with (hs | hs) | hs <;> first | (first | exact Own.aP qK aV (by decide) _ hs rfl | (have := Own.ge qK hs; omega)) | (exact absurd hs (by first | omega | exact fE (by assumption) (by assumption) (by decide))))
 replace lT := (lT.ai dw).aA dH Nj
 replace lT := lT.eH eu ((hldd.OU jv).elim .inl fun h0 => (hldd.ne gBp1).elim .inl fun h1 => PY.elim .inl fun h2 => .inr fun k hk hs => by rcases hs with (hs | hs) | hs <;> first | exact h0 k hk hs | exact h1 k hk hs | exact h2 k hk hs)
 replace lU := lU.eH eu ((hlde.OU jv).elim .inl fun h0 => (hlde.ne gBp1).elim .inl fun h1 => PZ.elim .inl fun h2 => .inr fun k hk hs => by rcases hs with (hs | hs) | hs <;> first | exact h0 k hk hs | exact h1 k hk hs | exact h2 k hk hs)
 replace hF := hF.go eu (fun i hi hs => Or.elim hs (fun hs => Or.elim hs (fun hs => absurd hi (by have := (Own.ge jv hs).1; omega)) (fun hs => absurd hi (by have e : i = bp1 := hs; omega))) (fun hs => absurd hi (by have e : i = bs := hs; omega)))
 clear qK
 refine aJ (acH aV hst1) (fun v20 wE D20 => ?_)
 obtain ⟨st, why, tn, last, ins, N20, hst, hq1_55, hq0_55, dJ⟩ := D20
 replace wu := wu.aA dJ (Own.aP wu (by assumption) (by decide))
 replace CS := dJ.ak CS (by exact fE (by assumption) (by assumption) (by decide))
 replace aV := N20
 refine hJ3 _ _ ?_
 replace lT := lT.aA dJ Af
 replace lU := lU.aA dJ Ag
 replace aI := dJ.ak aI Gq
 replace hF := hF.go1 dJ Q3
 exact ⟨_, _, _, _, _, _, _, _, _, _, aI, (by exact CS), (by exact wu), aV, (Gs.P6 hup BQ (by omega)), (by (rw [hn54]; exact hS1.run hdx.2.1)), (by exact hone1.run _), (by exact hst), (by exact hb54.elim (fun h => h.symm ▸ gBp1) (fun h => by omega)), lT, lU, hF⟩
 refine aB ?_
 refine Z.f 1 ?_
 refine Z.b 2 _ dR ?_
 replace jv := (jv.ai dw).aA dH Hm
 replace aI := dH.ak (dw.ag aI) Ad
 replace nR := dH.ak (dw.ag nR) Nh
 replace aV := dH.ak (dw.ag aV) P5
 replace hF := (hF.go0 dw).go1 dH pg
 refine aJ (aeA aI nR jv hS1 (by have := hF.size; omega) aV (k := WN.k) hdx.2.2 hst1 hone1) (fun v21 BD D21 => ?_)
 have qF21 := hF.size
 have Oc := hF.size
 obtain ⟨st59, why59, tn59, last59, ins59, s59, bp59, A59, n59, cp59, hst59, hS59, hone59, aV, aI, akq, ah4, hb59, ho59, dL⟩ := D21
 replace lT := (lT.ai dw).aA dH Nj
 replace lT := lT.eH dL ((hldd.OU jv).elim .inl fun h0 => (hldd.ne gBp1).elim .inl fun h1 => PY.elim .inl fun h2 => Af.elim .inl fun h3 => .inr fun k hk hs => by rcases hs with ((hs | hs) | hs) | hs <;> first | exact h0 k hk hs | exact h1 k hk hs | exact h2 k hk hs | exact h3 k hk hs)
 replace lU := (lU.ai dw).aA dH Nk
 replace lU := lU.eH dL ((hlde.OU jv).elim .inl fun h0 => (hlde.ne gBp1).elim .inl fun h1 => PZ.elim .inl fun h2 => Ag.elim .inl fun h3 => .inr fun k hk hs => by rcases hs with ((hs | hs) | hs) | hs <;> first | exact h0 k hk hs | exact h1 k hk hs | exact h2 k hk hs | exact h3 k hk hs)
 replace hF := hF.go dL (fun i hi hs => Or.elim hs (fun hs => Or.elim hs (fun hs => Or.elim hs (fun hs => absurd hi (by have := (Own.ge jv hs).1; omega)) (fun hs => absurd hi (by have e : i = bp1 := hs; omega))) (fun hs => absurd hi (by have e : i = bs := hs; omega))) (fun hs => absurd hi (by have e : i = bk := hs; omega)))
 refine hJ3 _ _ ?_
 exact ⟨_, _, _, _, _, _, _, _, _, _, aI, (by exact akq), (by exact ah4), aV, (Gs.P6 hup BQ (by omega)), (by exact hS59), (by exact hone59), (by exact hst59), (by exact hb59.elim (fun h => h.symm ▸ gBp1) (fun h => by omega)), lT, lU, hF⟩
 obtain ⟨s2, bp2, A2, n2, cp2, st2, why2, tn2, last2, ins2, aI, uj, jU, aV, hup2, hS2, hone2, hst2, gBp2, lT, lU, hF⟩ := hI
 refine aj (dF _ (by omega)) ?_
 exact ⟨⟨k + 1, s2, bp2, A2, n2, cp2, st2, why2, tn2, last2, ins2, (by rfl), by omega, hup2, hS2, hone2, hst2, gBp2, aI, uj, jU, aV, lT, lU, hF⟩, cnt_lt (by rfl) rfl (by omega)⟩
 refine aB ?_
 refine hJ1 _ _ ?_
 exact ⟨_, _, _, _, _, _, _, _, _, _, (by rw [show ds.length = k by omega]; exact hup), hS1, hone1, hst1, gBp1, aI, nR, jv, aV, lT, lU, hF⟩
 replace lT := ((lT.ai U9).ai aT).aA bK Af
 replace lU := ((lU.ai U9).ai aT).aA bK Ag
 replace aI := bK.ak (aT.ag (U9.ag aI)) Gq
 replace hF := ((hF.go0 U9).go0 aT).go1 bK Q3
 obtain ⟨s1, bp1, A1, n1, cp1, st1, why1, tn1, last1, ins1, hup, hS1, hone1, hst1, gBp1, aI, nR, jv, aV, lT, lU, hF⟩ := hI
 exact ⟨_, rfl, .inr ⟨⟨hz, by omega, by omega, Gs.upto_all hup (Nat.le_refl _)⟩, s1, bs, bk, bp1, A1, n1, cp1, st1, why1, tn1, last1, ins1, rfl, hB0 ▸ gBs, hB0 ▸ gBk, hB0 ▸ gBp1, hst1, hS1, hone1, by have := hS1.2.2.2.2.2.1; rw [hone1.2.2.1, hone1.2.2.2] at this; omega, aV, aI, nR, hB0 ▸ jv, hF⟩⟩
theorem aaK {r c : Int} {ds : List Gs.lL} {dA : Option Addr} {dc : Nat} {w : World} (lT : Rd w dA (rows Gs.de ds)) (lU : Gs.ut w ds) (hdw : Gs.MC ds) (hdn : ds.length ≤ maxLen) (h : ¬ Gs.Ei r c ds) :
    oX 22 #[.agg #[Z.i r, Z.i c], .slice dA ds.length dc] w fun e w' => e = .returned (.tuple #[.pointer none, .pointer none, .bool false]) ∧ az no w w' := by
 by_cases hz : Gs.aU r c = 0
 exact Uj hz
 refine (IK lT lU hdw hdn hz).mono fun e w' D => ?_
 obtain ⟨v, rfl, ⟨_, rfl, hU⟩ | ⟨h2, _⟩⟩ := D
 exact ⟨rfl, hU⟩
 exact absurd h2 h
theorem aaL {r c : Int} {ds : List Gs.lL} {dA : Option Addr} {dc : Nat} {w : World} (lT : Rd w dA (rows Gs.de ds)) (lU : Gs.ut w ds) (hdw : Gs.MC ds) (hdn : ds.length ≤ maxLen) (h : Gs.Ei r c ds) :
    oX 22 #[.agg #[Z.i r, Z.i c], .slice dA ds.length dc] w fun e w' => ∃ v, e = .returned v ∧ ∃ (s : Gs.jb) (bs bk bp : Nat) (A : Option Addr) (n cp : Nat) (st why tn last : Int) (ins : Bool), v = .tuple #[Z.p bs, Z.p bk, .bool true] ∧ w.heap.size ≤ bs ∧ w.heap.size ≤ bk ∧ w.heap.size ≤ bp ∧ (1 ≤ st ∧ st ≤ 3) ∧ Gs.Sw n s ∧ Gs.One r c s ∧ n ≤ 60 ∧ Z.h w' bk #[Z.p bs, Z.i st, Z.i why, Z.i tn, .bool ins, Z.u last] 95 ∧ Z.h w' bs #[Z.i s.r0, Z.i s.c0, Z.i s.r1, Z.i s.c1, Z.i s.wh, Z.p bp] 89 ∧ Z.h w' bp #[Z.i s.r, Z.i s.c, .slice A n cp, Z.i s.cur] 91 ∧ Own w.heap.size w' 37 5 (.slice A n cp) (rows Gs.cv s.cs) ∧ az no w w' := by
 refine (IK lT lU hdw hdn h.1).mono fun e w' D => ?_
 obtain ⟨v, rfl, ⟨h2, _⟩ | ⟨_, hD⟩⟩ := D
 exact absurd h h2
 exact ⟨v, rfl, hD⟩
end Go.Proofs.YtjdoakbadehicaaGreatDoor
end
