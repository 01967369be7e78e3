/- Part of a proof. No condition but those that its theorems state. -/
import Derived.Test.YtjdoakbadehicaaGreatDoorQg
import Derived.Test.YtjdoakbadehicaaGreatDoorQd
import Derived.Test.YtjdoakbadehicaaGreatDoorQc
import Derived.Test.YtjdoakbadehicaaGreatDoorQf
import Derived.Test.YtjdoakbadehicaaGreatDoorProg
import Derived.Test.YtjdoakbadehicaaGreatDoorQa
import Derived.KernelRfl
import Derived.WalkKit
import Derived.Lib.Builder
import Derived.Laws.Externs
import Derived.Lib.AppendStr
import Derived.Shelf.RegionOpenPlain
set_option linter.unusedVariables false
set_option linter.unusedSimpArgs false
section
namespace Gs
open Go Go.Sh
theorem agK {c : Cell} (h : c.b = 0) (g : c.ge = false) : jT c = true := by unfold jT; rw [decide_eq_true h, g]; rfl
theorem agI {c : Cell} (h : ¬ c.b = 0) : jT c = false := by unfold jT; rw [decide_eq_false h]; rfl
theorem agJ {c : Cell} (g : c.ge = true) : jT c = false := by unfold jT; rw [g]; simp
def mZ (cs : List Cell) (l : List Int) : List Cell := (l.map (bJ cs)).filter fun c => !jT c
theorem UF (cs : List Cell) (l m : List Int) : mZ cs (l ++ m) = mZ cs l ++ mZ cs m := by unfold mZ; rw [List.map_append, List.filter_append]
theorem akt {cs : List Cell} {l : List Int} {k : Nat} {x : Int} (hx : l[k]? = some x) (h : jT (bJ cs x) = true) : mZ cs (l.take k) = mZ cs (l.take (k + 1)) := by
 rw [← nV hx, UF]
 unfold mZ; simp [h]
theorem acL {cs : List Cell} {l : List Int} {k : Nat} {x : Int} (hx : l[k]? = some x) (h : jT (bJ cs x) = false) : mZ cs (l.take k) ++ [bJ cs x] = mZ cs (l.take (k + 1)) := by
 rw [← nV hx, UF]
 unfold mZ; simp [h]
theorem aeF (cs : List Cell) (l : List Int) : (mZ cs l).length ≤ l.length := by
 have := List.length_filter_le (fun c => !jT c) (l.map (bJ cs))
 rwa [List.length_map] at this
def qQ (cs : List Cell) (l : List Int) : List Cell := (l.map (bJ cs)).filter fun c => !c.st && !jT c
theorem UG (cs : List Cell) (l m : List Int) : qQ cs (l ++ m) = qQ cs l ++ qQ cs m := by unfold qQ; rw [List.map_append, List.filter_append]
theorem acN {cs : List Cell} {l : List Int} {k : Nat} {x : Int} (hx : l[k]? = some x) (h : (bJ cs x).st = true ∨ jT (bJ cs x) = true) : qQ cs (l.take k) = qQ cs (l.take (k + 1)) := by
 rw [← nV hx, UG]
 unfold qQ
 rcases h with h | h <;> simp [h]
theorem acO {cs : List Cell} {l : List Int} {k : Nat} {x : Int} (hx : l[k]? = some x) (h0 : (bJ cs x).st = false) (h : jT (bJ cs x) = false) : qQ cs (l.take k) ++ [bJ cs x] = qQ cs (l.take (k + 1)) := by
 rw [← nV hx, UG]
 unfold qQ; simp [h, h0]
theorem aeH (cs : List Cell) (l : List Int) : (qQ cs l).length ≤ l.length := by
 have := List.length_filter_le (fun c : Cell => !c.st && !jT c) (l.map (bJ cs))
 rwa [List.length_map] at this
theorem adb {cs : List Cell} {l : List Int} (h : ∀ i ∈ l, (bJ cs i).st = false) : qQ cs l = mZ cs l := by
 unfold qQ mZ
 refine List.filter_congr fun c hc => ?_
 obtain ⟨i, hi, rfl⟩ := List.mem_map.1 hc
 rw [h i hi]; rfl
def uU (cs : List Cell) : List (Int × List Cell) :=
 if allM cs = [] then (if mZ cs (eU cs) = [] then [] else [(-1, mZ cs (eU cs))])
 else ((allM cs).filter uJ).map fun f => ((f.s + 1) % cs.length, mZ cs (dZ cs.length f))
theorem aaW (cs : List Cell) (l : List Int) : pY cs l = (mZ cs l).map ru := rfl
theorem XJ (cs : List Cell) : qM cs = (uU cs).map fun y => (y.1, y.2.map ru) := by
 unfold qM uU
 split
 ·rw [aaW]
  by_cases h : mZ cs (eU cs) = []
  ·rw [if_pos h, if_pos (by rw [h]; rfl)]; rfl
  ·rw [if_neg h, if_neg (fun e => h (List.map_eq_nil_iff.1 e))]; rfl
 ·rw [List.map_map]; rfl
theorem ah8 {cs : List Cell} (hp : 0 < cs.length) (h : ¬ 0 ≤ kT cs 0 1) (h2 : qQ cs (eU cs) = []) : uU cs = [] := by
 have ha := aam hp h
 unfold uU
 rw [if_pos ha, if_pos (by rw [← adb (Bd ha)]; exact h2)]
theorem ah7 {cs : List Cell} (hp : 0 < cs.length) (h : ¬ 0 ≤ kT cs 0 1) (h2 : ¬ qQ cs (eU cs) = []) : uU cs = [(-1, qQ cs (eU cs))] := by
 have ha := aam hp h
 unfold uU
 rw [if_pos ha, ← adb (Bd ha), if_neg h2]
def zI (cs : List Cell) (k : Nat) : List (Int × List Cell) := ((List.range k).filter fun i : Nat => stB cs i && decide ((bJ cs i).b % 2 = 1)).map fun i : Nat => (((i : Int) + 1) % cs.length, mZ cs (dZ cs.length (je cs i)))
theorem ah5 {cs : List Cell} {k : Nat} (h : stB cs k = true) (h2 : (bJ cs k).b % 2 = 1) : zI cs k ++ [(((k : Int) + 1) % cs.length, mZ cs (dZ cs.length (je cs k)))] = zI cs (k + 1) := by
 unfold zI
 rw [List.range_succ, List.filter_append, List.map_append]
 simp [h, h2]
theorem XB {cs : List Cell} {k : Nat} (h : stB cs k = false ∨ ¬ (bJ cs k).b % 2 = 1) : zI cs k = zI cs (k + 1) := by
 unfold zI
 rw [List.range_succ, List.filter_append, List.map_append]
 rcases h with h | h <;> simp [h]
theorem ah6 {cs : List Cell} (hp : 0 < cs.length) (h : 0 ≤ kT cs 0 1) : zI cs cs.length = uU cs := by
 unfold uU zI allM qx bQ
 have ha := agF hp h
 unfold allM qx bQ at ha
 rw [if_neg ha, List.filter_map, List.filter_map, List.map_map, List.map_map, List.filter_filter]
 congr 1
 refine List.filter_congr fun i hi => ?_
 show (stB cs i && decide ((bJ cs i).b % 2 = 1)) = ((uJ ∘ je cs) (Int.ofNat i) && stB cs i)
 rw [Bool.and_comm]
 congr 1
 show _ = decide ((bJ cs (i : Int)).b % 64 % 2 = 1)
 exact decide_eq_decide.2 ⟨fun h => by omega, fun h => by omega⟩
theorem aaX (cs : List Cell) : (allM cs).Pairwise fun f g => f.s < g.s := by
 unfold allM qx
 rw [List.map_map]
 refine List.pairwise_map.2 ((Hf cs).imp fun {a b} h => ?_)
 show (a : Int) < (b : Int)
 omega
theorem Wu (cs : List Cell) : (qM cs).Pairwise fun x y => y.1 = 0 ∨ x.1 < y.1 := by
 unfold qM
 split
 ·split
  ·exact List.Pairwise.nil
  ·exact List.pairwise_singleton _ _
 ·refine List.pairwise_map.2 ?_
  have h1 : ((allM cs).filter uJ).Pairwise fun f g => f.s < g.s := (aaX cs).filter _
  refine List.Pairwise.imp_of_mem (fun {f g} hf hg h => ?_) h1
  obtain ⟨k, hk⟩ := List.getElem?_of_mem (List.mem_filter.1 hf).1
  obtain ⟨j, hj⟩ := List.getElem?_of_mem (List.mem_filter.1 hg).1
  have h2 := (all_in hk).1
  have h3 := (all_in hj).1
  show (g.s + 1) % (cs.length : Int) = 0 ∨ (f.s + 1) % (cs.length : Int) < (g.s + 1) % (cs.length : Int)
  rw [Int.emod_eq_of_lt (a := f.s + 1) (by omega) (by omega)]
  by_cases he : g.s + 1 = cs.length
  ·left; rw [he]; exact Int.emod_self
  ·right; rw [Int.emod_eq_of_lt (a := g.s + 1) (by omega) (by omega)]; omega
structure I7 (cs : List Cell) (l m : List It) : Prop where
 a : its l = qM cs
 b : its m = uU cs
section
variable {cs : List Cell} {l m : List It} {k : Nat} {x y : It}
theorem BC (h : l[k]? = some x) : (its l)[k]? = some (x.at', x.cs) := by unfold its; rw [List.getElem?_map, h]; rfl
theorem I7.len (h : I7 cs l m) : l.length = m.length := by
 have h1 := congrArg List.length h.a
 rw [XJ, ← h.b, List.length_map, EP, EP] at h1
 exact h1
theorem I7.eq (h : I7 cs l m) (hx : l[k]? = some x) (hy : m[k]? = some y) : x.at' = y.at' ∧ x.cs = y.cs.map ru := by
 have h1 := BC hx
 rw [h.a, XJ, ← h.b, List.getElem?_map, BC hy] at h1
 have h2 := Option.some.inj h1
 exact ⟨(congrArg Prod.fst h2).symm, (congrArg Prod.snd h2).symm⟩
theorem I7.cell (h : I7 cs l m) (hx : l[k]? = some x) (hy : m[k]? = some y) {j : Nat} {c d : Cell} (hc : x.cs[j]? = some c) (hd : y.cs[j]? = some d) : c = ru d := by
 rw [(h.eq hx hy).2, List.getElem?_map, hd] at hc
 exact (Option.some.inj hc).symm
theorem I7.ord (h : I7 cs l m) (hx : l[k]? = some x) {j : Nat} (hj : j < k) (hy : l[j]? = some y) : x.at' = 0 ∨ y.at' < x.at' := by
 have h1 := Wu cs
 rw [← h.a] at h1
 obtain ⟨hk, ek⟩ := List.getElem?_eq_some_iff.1 (BC hx)
 obtain ⟨hl, el⟩ := List.getElem?_eq_some_iff.1 (BC hy)
 have h2 := List.pairwise_iff_getElem.1 h1 j k hl hk hj
 rw [ek, el] at h2
 exact h2
theorem zq {d : Cell} (h : d.st = false) : (ru d).ge = d.ge := by unfold ru; rw [h]; rfl
theorem O3 {d : Cell} (h : d.st = false) (hb : 64 ≤ d.b) : (ru d).b = d.b := by
 unfold ru
 rw [h]
 show (if d.ge then (if d.b < 64 then 64 else d.b) else (if fG d.b = true then d.b else 64)) = d.b
 have : fG d.b = true := by unfold fG; rw [decide_eq_true hb]; rfl
 rw [if_pos this, if_neg (by omega : ¬ d.b < 64)]
 split <;> rfl
end
theorem aiJ {cs : List Cell} {y : Int × List Cell} (h : y ∈ uU cs) : ∀ d ∈ y.2, d.st = false := by
 have key : ∀ {l : List Int}, (∀ i ∈ l, (bJ cs i).st = false) → ∀ d ∈ mZ cs l, d.st = false := fun hl d hd => by
  obtain ⟨i, hi, rfl⟩ := List.mem_map.1 (List.mem_filter.1 hd).1
  exact hl i hi
 unfold uU at h
 split at h
 ·rename_i ha
  split at h
  ·cases h
  ·cases List.mem_singleton.1 h; exact key (Bd ha)
 ·obtain ⟨f, hf, rfl⟩ := List.mem_map.1 h
  obtain ⟨k, hk⟩ := List.getElem?_of_mem (List.mem_filter.1 hf).1
  exact key (Ip hk)
theorem I7.st {cs : List Cell} {l m : List It} {k j : Nat} {y : It} {d : Cell} (h : I7 cs l m) (hy : m[k]? = some y) (hd : y.cs[j]? = some d) : d.st = false :=
 aiJ (y := (y.at', y.cs)) (h.b ▸ List.mem_of_getElem? (BC hy)) d (List.mem_of_getElem? hd)
end Gs
end
section
namespace Go.Proofs.YtjdoakbadehicaaGreatDoor
open Go Go.Sh
set_option maxRecDepth 100000
set_option maxHeartbeats 1000000 in
theorem Ul {r c cur : Int} {A : Option Addr} {n cp bp B0 : Nat} {cs : List Gs.Cell} {w : World} (af : Z.h w bp #[Z.i r, Z.i c, .slice A n cp, Z.i cur] 91) (ae : Own B0 w 37 5 (.slice A n cp) (rows Gs.cv cs)) (hn : n = cs.length) {i : Int} (hi : 0 ≤ i ∧ i < n) (hN : Gs.aU r c = n) (hb : n ≤ 4096) (hst : Gs.stB cs i = true) :
    oX 62 #[Z.p bp, Z.i i] w fun e w' => ∃ v, e = .returned v ∧ ∃ A' c', v = .agg (Gs.ie (⟨((i + 1) % (n : Int)), A', c', (Gs.mZ cs (Gs.dZ cs.length (Gs.je cs i)))⟩ : Gs.It)).toArray ∧ Own w.heap.size w' 37 5 (.slice A' (Gs.mZ cs (Gs.dZ cs.length (Gs.je cs i))).length c') (rows Gs.cv (Gs.mZ cs (Gs.dZ cs.length (Gs.je cs i)))) ∧ az no w w' := by
 refine F62.calls ?_
 unfold F62
 subst hn
 obtain ⟨L, hL, hle, -, hLs, hLn⟩ := Gs.len_eq hi hst
 have hPl := Gs.qZ (N := cs.length) (f := Gs.je cs i) hi
 rw [show (Gs.je cs i).l = (L : Int) from hle] at hPl
 have hPL : (Gs.dZ cs.length (Gs.je cs i)).length = L := by omega
 clear hPl
 have uA := au af
 have jP := Own.lt ae
 have hF : az no w w := Fr.refl _ _ _
 refine Z.n (#[Z.i 0, .slice none 0 0]) (fun b1 w1 e1 ah _ U1 => ?_)
 have jW : bp ≠ b1 := by have := au af; omega
 have gV := ae.apart e1
 have bU : w.heap.size ≤ b1 := by have := hF.size; omega
 refine aj (dF _ (by omega)) ?_
 replace ae := ae.ai U1
 replace af := U1.ag af
 refine aG (eY af ae rfl) (fun w2 U2 => ?_)
 refine aj (YD _ (by omega) (by omega) (by omega)) ?_
 refine aj (bz (l := [(0, 1), (1, 1)]) (z := #[Z.i 0, .slice none 0 0]) (cs := [Z.i ((i + 1) % (cs.length : Int)), .slice none 0 0]) (by kernel_rfl) (by rfl)) ?_
 refine Z.n (#[Z.i 0, .slice none 0 0]) (fun b4 w4 e4 dh _ U4 => ?_)
 replace af := U2.ag af
 have mX : bp ≠ b4 := by have := au af; omega
 replace ae := ae.ai U2
 have kF := ae.apart e4
 replace ah := U2.ag ah
 have lu : b1 ≠ b4 := by have := au ah; omega
 replace hF := (hF.go0 U1).go0 U2
 have lV : w.heap.size ≤ b4 := by have := hF.size; omega
 refine Z.t 2 (#[Z.i ((i + 1) % (cs.length : Int)), .slice none 0 0]) (by (simp [Value.cells, Value.oneCell', Gs.cv, Gs.fv, Gs.ie, Gs.pe, Gs.oe, Gs.bT, Gs.fe, Gs.fC, Gs.ce, Gs.dX, Gs.re, Gs.de, Gs.ie]; done)) dh (fun w5 dh _ U5 => ?_)
 refine bH (fun g w' => ∃ (v5 : Value), (Z.h w' b1 #[Z.i 0, .slice none 0 0] 54) ∧ (Z.h w' b4 #[Z.i ((i + 1) % (cs.length : Int)), v5] 54) ∧ (Own w.heap.size w' 37 5 v5 (rows Gs.cv (Gs.mZ cs (Gs.dZ cs.length (Gs.je cs i))))) ∧ (az no w w')) (fun J1 hJ1 => ?_) (fun gJ1 jX hI => ?_)
 refine dW (fun g w' => ∃ (k : Nat) (m : Nat) (v5 : Value), (g 6 = Z.i (k : Int)) ∧ (k = m + 1 ∧ m ≤ L) ∧ (Z.h w' b1 #[Z.i 0, .slice none 0 0] 54) ∧ (Z.h w' b4 #[Z.i ((i + 1) % (cs.length : Int)), v5] 54) ∧ (Own w.heap.size w' 37 5 v5 (rows Gs.cv (Gs.mZ cs ((Gs.dZ cs.length (Gs.je cs i)).take m)))) ∧ (Z.h w' bp #[Z.i r, Z.i c, .slice A cs.length cp, Z.i cur] 91) ∧ (Own B0 w' 37 5 (.slice A cs.length cp) (rows Gs.cv cs)) ∧ (az no w w')) (fun g w' => cs.length - (RowKit.intOf (g 6)).toNat) ?_ (fun g2 qj hI => ?_)
 replace ae := (ae.ai U4).aA U5 kF
 replace af := U5.ak (U4.ag af) mX
 replace ah := U5.ak (U4.ag ah) lu
 replace hF := (hF.go0 U4).go1 U5 lV
 exact ⟨1, 0, _, (by rfl), ⟨rfl, Nat.zero_le _⟩, ah, dh, (by rw [List.take_zero]; exact Own.nil _ _ _ _), af, ae, hF⟩
 replace ae := (ae.ai U4).aA U5 kF
 replace af := U5.ak (U4.ag af) mX
 replace ah := U5.ak (U4.ag ah) lu
 replace hF := (hF.go0 U4).go1 U5 lV
 obtain ⟨k, m, v5, g6, hkm, ah, dh, df, af, ae, hF⟩ := hI
 rw [g6]
 obtain ⟨A5, c5, rfl⟩ := Own.open Gs.jf df
 obtain ⟨rfl, hmL⟩ := hkm
 have hrl := Gs.aeF cs ((Gs.dZ cs.length (Gs.je cs i)).take m)
 rw [List.length_take] at hrl
 have hci := Gs.jF (i + ((m + 1 : Nat) : Int)) (N := cs.length) (by omega)
 have hcs : (i + 1 + (m : Int)) % (cs.length : Int) = ((i + ((m + 1 : Nat) : Int)) % (cs.length : Int)) := by congr 1; omega
 refine aG (eY af ae rfl) (fun w6 U6 => ?_)
 refine ay (lss _ _ _ _) (fun h7 => ?_) (fun h7 => ?_)
 refine aH ?_
 refine bH (fun g w' => ∃ (v5 : Value), (m + 1 ≤ L) ∧ (Z.h w' b1 #[Z.i 0, .slice none 0 0] 54) ∧ (Z.h w' b4 #[Z.i ((i + 1) % (cs.length : Int)), v5] 54) ∧ (Own w.heap.size w' 37 5 v5 (rows Gs.cv (Gs.mZ cs ((Gs.dZ cs.length (Gs.je cs i)).take (m + 1))))) ∧ (Z.h w' bp #[Z.i r, Z.i c, .slice A cs.length cp, Z.i cur] 91) ∧ (Own B0 w' 37 5 (.slice A cs.length cp) (rows Gs.cv cs)) ∧ (az no w w')) (fun J3 hJ3 => ?_) (fun gJ3 Ha hI => ?_)
 refine aj (dF _ (by omega)) ?_
 replace ae := ae.ai U6
 replace af := U6.ag af
 refine aG (eY af ae rfl) (fun w8 U8 => ?_)
 refine aj (YD _ (by omega) (by omega) (by omega)) ?_
 replace ae := ae.ai U8
 replace af := U8.ag af
 refine aG (iI af ae rfl (i := ((i + ((m + 1 : Nat) : Int)) % (cs.length : Int)))) (fun w9 U9 => ?_)
 refine Z.n ((Gs.cv Gs.zc).toArray) (fun b10 w10 e10 oO _ aT => ?_)
 replace ah := U9.ag (U8.ag (U6.ag ah))
 have xG : b1 ≠ b10 := by have := au ah; omega
 replace dh := U9.ag (U8.ag (U6.ag dh))
 have P7 : b4 ≠ b10 := by have := au dh; omega
 replace df := ((df.ai U6).ai U8).ai U9
 have zH := df.apart e10
 replace af := U9.ag af
 have P8 : bp ≠ b10 := by have := au af; omega
 replace ae := ae.ai U9
 have IM := ae.apart e10
 replace hF := ((hF.go0 U6).go0 U8).go0 U9
 have EG : w.heap.size ≤ b10 := by have := hF.size; omega
 refine Z.t 5 ((Gs.cv (Gs.bJ cs ((i + ((m + 1 : Nat) : Int)) % (cs.length : Int)))).toArray) (by (simp [Value.cells, Value.oneCell', Gs.cv, Gs.fv, Gs.ie, Gs.pe, Gs.oe, Gs.bT, Gs.fe, Gs.fC, Gs.ce, Gs.dX, Gs.re, Gs.de, Gs.ie]; done)) oO (fun oz oO _ bK => ?_)
 refine Z.f 2 ?_
 refine mQ (kK (by kernel_rfl) oO (by rfl)) (fun h12 => ?_) (fun h12 => ?_)
 refine aH ?_
 replace df := (df.ai aT).aA bK zH
 replace ae := (ae.ai aT).aA bK IM
 replace ah := bK.ak (aT.ag ah) xG
 replace dh := bK.ak (aT.ag dh) P7
 replace af := bK.ak (aT.ag af) P8
 replace hF := (hF.go0 aT).go1 bK EG
 have hmL2 : m = L := by
   rcases Nat.lt_or_ge m L with h | h
   · have := hLn m h; rw [hcs] at this; exact absurd ((show (Gs.bJ cs ((i + ((m + 1 : Nat) : Int)) % (cs.length : Int))).st = true by assumption).symm.trans this) (by decide)
   · omega
 rw [List.take_of_length_le (by omega)] at df dh
 refine Z.b 2 _ dh ?_
 refine gQ (n := 2) (by kernel_rfl) (by rfl) (by (simp [Value.cells, Value.oneCell', Gs.cv, Gs.fv, Gs.ie, Gs.pe, Gs.oe, Gs.bT, Gs.fe, Gs.fC, Gs.ce, Gs.dX, Gs.re, Gs.de, Gs.ie]; done)) ah (Nat.le_of_ble_eq_true rfl) (by (simp; rfl)) (fun uM ah _ dI => ?_)
 replace df := df.aA dI (Own.aP df (by assumption) (by decide))
 refine Z.a 2 ah ?_
 replace hF := hF.go1 dI bU
 exact ⟨_, rfl, _, c5, rfl, df, hF⟩
 refine aB ?_
 replace df := (df.ai aT).aA bK zH
 replace ae := (ae.ai aT).aA bK IM
 replace ah := bK.ak (aT.ag ah) xG
 replace dh := bK.ak (aT.ag dh) P7
 replace af := bK.ak (aT.ag af) P8
 replace hF := (hF.go0 aT).go1 bK EG
 have hmL3 : m < L := by
   rcases Nat.lt_or_ge m L with h | h
   · exact h
   · exfalso; have e : m = L := by omega
     rw [← e, hcs] at hLs; exact absurd ((show (Gs.bJ cs ((i + ((m + 1 : Nat) : Int)) % (cs.length : Int))).st = false by assumption).symm.trans hLs) (by decide)
 have hPk : (Gs.dZ cs.length (Gs.je cs i))[m]? = some ((i + ((m + 1 : Nat) : Int)) % (cs.length : Int)) := Gs.vH (by omega)
 refine Z.f 0 ?_
 refine Z.l oO ?_
 refine ay (kL _ _ _ _ _) (fun h15 => ?_) (fun h15 => ?_)
 refine bI (bI (bu (aH ?_)))
 refine Z.f 1 ?_
 refine Z.l dh ?_
 refine Z.b 5 ((Gs.cv (Gs.bJ cs ((i + ((m + 1 : Nat) : Int)) % (cs.length : Int)))).toArray) oO ?_
 refine dD (e := 37) (m := 5) (z := #[Z.u 0, .bool false, .bool false, Z.u 0, Z.u 0]) (by kernel_rfl) (by kernel_rfl) (by rfl) (by decide) (by (simp [eP, splice, gq, Value.cells, Gs.cv, Gs.fv, Gs.ie, Gs.pe, Gs.oe, Gs.bT, Gs.fe, Gs.fC, Gs.ce, Gs.dX, Gs.re, Gs.de, Gs.ie]; rfl)) (fun b16 w16 e16 iG _ bZ => ?_)
 have xH : b1 ≠ b16 := by have := au ah; omega
 have anL : b4 ≠ b16 := by have := au dh; omega
 have V6 := df.apart e16
 have acK : bp ≠ b16 := by have := au af; omega
 have Um := ae.apart e16
 have ams : b10 ≠ b16 := by have := au oO; omega
 have BL : w.heap.size ≤ b16 := by have := hF.size; omega
 replace df := df.ai bZ
 replace hF := hF.go0 bZ
 refine ji (e := 37) (size := 5) (bytes := 5) (by kernel_rfl) df (show Rd _ (some ⟨b16, 0, none⟩) (rows Gs.cv [(Gs.bJ cs ((i + ((m + 1 : Nat) : Int)) % (cs.length : Int)))]) from Rd.lI iG) (by exact dV Gs.jf _) (qC Gs.jf _) (by rw [dV Gs.jf, dV Gs.jf]; try simp only [List.length_nil, List.length_cons, List.length_take, List.length_append]; omega) (by have := hF.size; omega) (fun v17 uo N17 hA17 bY => ?_)
 have iO := df
 replace oO := bZ.ag oO
 have aoL : ∀ k, aC v17 k → k ≠ b10 := fun k hk e => Or.elim (hA17 k hk) (fun h => zH k h e) (fun h => by have := au oO; omega)
 have aeG : ∀ k, aC v17 k → k ≠ b16 := fun k hk e => Or.elim (hA17 k hk) (fun h => V6 k h e) (fun h => by have := au iG; omega)
 replace ah := bZ.ag ah
 replace ah := bY.get ah (fun h => Own.aP iO ah (by decide) _ h rfl)
 replace dh := bZ.ag dh
 replace dh := bY.get dh (fun h => Own.aP iO dh (by decide) _ h rfl)
 replace df := N17
 replace af := bZ.ag af
 replace af := bY.get af (fun h => by (have := Own.ge iO h; omega))
 replace ae := ae.ai bZ
 replace ae := ae.eH bY (fun k hk hs => by have := jP k hk; have := (Own.ge iO hs).1; omega)
 replace hF := hF.go bY (fun i h hs => by (have := (Own.ge iO hs).1; omega))
 clear iO
 rw [lZ] at df
 obtain ⟨A17, c17, rfl⟩ := Own.open Gs.jf df
 refine Z.f 1 ?_
 refine Z.s dh (fun uY dh _ dE => ?_)
 replace df := df.aA dE (Own.aP df (by assumption) (by decide))
 refine hJ3 _ _ ?_
 simp only [List.length_append, List.length_cons, List.length_nil, Nat.zero_add] at df
 replace ae := ae.aA dE kF
 replace ah := dE.ak ah lu
 replace af := dE.ak af mX
 replace hF := hF.go1 dE lV
 exact ⟨_, (by omega), ah, dh, (by (rw [← Gs.acL hPk (Gs.agI (by assumption))]; exact df)), af, ae, hF⟩
 refine bP ?_
 refine Z.f 1 ?_
 refine bP ?_
 refine mQ (kK (by kernel_rfl) oO (by rfl)) (fun h19 => ?_) (fun h19 => ?_)
 refine bG (aH ?_)
 refine Z.f 1 ?_
 refine Z.l dh ?_
 refine Z.b 5 ((Gs.cv (Gs.bJ cs ((i + ((m + 1 : Nat) : Int)) % (cs.length : Int)))).toArray) oO ?_
 refine dD (e := 37) (m := 5) (z := #[Z.u 0, .bool false, .bool false, Z.u 0, Z.u 0]) (by kernel_rfl) (by kernel_rfl) (by rfl) (by decide) (by (simp [eP, splice, gq, Value.cells, Gs.cv, Gs.fv, Gs.ie, Gs.pe, Gs.oe, Gs.bT, Gs.fe, Gs.fC, Gs.ce, Gs.dX, Gs.re, Gs.de, Gs.ie]; rfl)) (fun b20 wE e20 aaM _ dJ => ?_)
 have acM : b1 ≠ b20 := by have := au ah; omega
 have anM : b4 ≠ b20 := by have := au dh; omega
 have V7 := df.apart e20
 have anN : bp ≠ b20 := by have := au af; omega
 have akr := ae.apart e20
 have amu : b10 ≠ b20 := by have := au oO; omega
 have aks : w.heap.size ≤ b20 := by have := hF.size; omega
 replace df := df.ai dJ
 replace hF := hF.go0 dJ
 refine ji (e := 37) (size := 5) (bytes := 5) (by kernel_rfl) df (show Rd _ (some ⟨b20, 0, none⟩) (rows Gs.cv [(Gs.bJ cs ((i + ((m + 1 : Nat) : Int)) % (cs.length : Int)))]) from Rd.lI aaM) (by exact dV Gs.jf _) (qC Gs.jf _) (by rw [dV Gs.jf, dV Gs.jf]; try simp only [List.length_nil, List.length_cons, List.length_take, List.length_append]; omega) (by have := hF.size; omega) (fun v21 BD N21 hA21 dL => ?_)
 have iO := df
 replace oO := dJ.ag oO
 have aoM : ∀ k, aC v21 k → k ≠ b10 := fun k hk e => Or.elim (hA21 k hk) (fun h => zH k h e) (fun h => by have := au oO; omega)
 have aoN : ∀ k, aC v21 k → k ≠ b20 := fun k hk e => Or.elim (hA21 k hk) (fun h => V7 k h e) (fun h => by have := au aaM; omega)
 replace ah := dJ.ag ah
 replace ah := dL.get ah (fun h => Own.aP iO ah (by decide) _ h rfl)
 replace dh := dJ.ag dh
 replace dh := dL.get dh (fun h => Own.aP iO dh (by decide) _ h rfl)
 replace df := N21
 replace af := dJ.ag af
 replace af := dL.get af (fun h => by (have := Own.ge iO h; omega))
 replace ae := ae.ai dJ
 replace ae := ae.eH dL (fun k hk hs => by have := jP k hk; have := (Own.ge iO hs).1; omega)
 replace hF := hF.go dL (fun i h hs => by (have := (Own.ge iO hs).1; omega))
 clear iO
 rw [lZ] at df
 obtain ⟨A21, c21, rfl⟩ := Own.open Gs.jf df
 refine Z.f 1 ?_
 refine Z.s dh (fun ED dh _ fB => ?_)
 replace df := df.aA fB (Own.aP df (by assumption) (by decide))
 refine hJ3 _ _ ?_
 simp only [List.length_append, List.length_cons, List.length_nil, Nat.zero_add] at df
 replace ae := ae.aA fB kF
 replace ah := fB.ak ah lu
 replace af := fB.ak af mX
 replace hF := hF.go1 fB lV
 exact ⟨_, (by omega), ah, dh, (by (rw [← Gs.acL hPk (Gs.agJ (by assumption))]; exact df)), af, ae, hF⟩
 refine bG (aB ?_)
 refine hJ3 _ _ ?_
 exact ⟨_, (by omega), ah, dh, (by (rw [← Gs.akt hPk (Gs.agK (Classical.not_not.1 (by assumption)) (by assumption))]; exact df)), af, ae, hF⟩
 replace df := df.ai U6
 replace ae := ae.ai U6
 replace ah := U6.ag ah
 replace dh := U6.ag dh
 replace af := U6.ag af
 replace hF := hF.go0 U6
 obtain ⟨v5, hm1, ah, dh, df, af, ae, hF⟩ := hI
 obtain ⟨A5, c5, rfl⟩ := Own.open Gs.jf df
 refine aj (dF _ (by omega)) ?_
 exact ⟨⟨m + 1 + 1, m + 1, _, (by rfl), ⟨rfl, hm1⟩, ah, dh, df, af, ae, hF⟩, cnt_lt (by rfl) rfl (by omega)⟩
 refine aB ?_
 refine hJ1 _ _ ?_
 replace df := df.ai U6
 replace dh := U6.ag dh
 rw [List.take_of_length_le (by omega)] at df dh
 replace ah := U6.ag ah
 replace hF := hF.go0 U6
 exact ⟨_, ah, dh, df, hF⟩
 replace ah := U5.ak (U4.ag ah) lu
 replace hF := (hF.go0 U4).go1 U5 lV
 obtain ⟨v5, ah, dh, df, hF⟩ := hI
 obtain ⟨A5, c5, rfl⟩ := Own.open Gs.jf df
 refine Z.b 2 _ dh ?_
 refine gQ (n := 2) (by kernel_rfl) (by rfl) (by (simp [Value.cells, Value.oneCell', Gs.cv, Gs.fv, Gs.ie, Gs.pe, Gs.oe, Gs.bT, Gs.fe, Gs.fC, Gs.ce, Gs.dX, Gs.re, Gs.de, Gs.ie]; done)) ah (Nat.le_of_ble_eq_true rfl) (by (simp; rfl)) (fun AB ah _ eF => ?_)
 replace ae := (ae.ai U4).aA U5 kF
 replace af := U5.ak (U4.ag af) mX
 replace df := df.aA eF (Own.aP df (by assumption) (by decide))
 refine Z.a 2 ah ?_
 replace hF := hF.go1 eF bU
 exact ⟨_, rfl, _, c5, rfl, df, hF⟩
set_option maxHeartbeats 2000000 in
theorem Un {r c cur : Int} {A : Option Addr} {n cp bp B0 : Nat} {cs : List Gs.Cell} {w : World} (af : Z.h w bp #[Z.i r, Z.i c, .slice A n cp, Z.i cur] 91) (ae : Own B0 w 37 5 (.slice A n cp) (rows Gs.cv cs)) (hn : n = cs.length) (hp : 0 < n) (hN : Gs.aU r c = n) (hb : n ≤ 4096) (hcw : Gs.jq cs)  :
    oX 23 #[Z.p bp] w fun e w' => ∃ v, e = .returned v ∧ ∃ (l : List Gs.It) (A' : Option Addr) (c' : Nat), v = .slice A' l.length c' ∧ Gs.its l = Gs.uU cs ∧ Rd w' A' (rows Gs.ie l) ∧ Gs.Cl w' l ∧ uK A' (rows Gs.ie l) w.heap.size ∧ Gs.PP l w.heap.size ∧ az no w w' := by
 refine F23.calls ?_
 unfold F23
 subst hn
 have hpla := Gs.rV cs
 have uA := au af
 have jP := Own.lt ae
 have hF : az no w w := Fr.refl _ _ _
 refine dD (e := 54) (m := 2) (z := #[Z.i 0, .slice none 0 0]) (by kernel_rfl) (by kernel_rfl) (by rfl) (by decide) (by (simp [eP, splice, gq, Value.cells, Gs.cv, Gs.fv, Gs.ie, Gs.pe, Gs.oe, Gs.bT, Gs.fe, Gs.fC, Gs.ce, Gs.dX, Gs.re, Gs.de, Gs.ie]; rfl)) (fun b1 w1 e1 ah _ U1 => ?_)
 have jW : bp ≠ b1 := by have := au af; omega
 have gV := ae.apart e1
 have bU : w.heap.size ≤ b1 := by have := hF.size; omega
 have cu := Own.of_block (n := 0) (xs := rows Gs.ie []) (size := 2) ah bU rfl (by decide)
 refine aj (bz (l := [(0, 1), (1, 1)]) (z := #[Z.i 0, .slice none 0 0]) (cs := [Z.i (-1), .slice none 0 0]) (by kernel_rfl) (by rfl)) ?_
 refine Z.n (#[Z.i 0, .slice none 0 0]) (fun b3 w3 e3 aS _ U3 => ?_)
 replace af := U1.ag af
 have jO : bp ≠ b3 := by have := au af; omega
 replace ae := ae.ai U1
 have gU := ae.apart e3
 have sU := cu.apart e3
 replace hF := hF.go0 U1
 have jk : w.heap.size ≤ b3 := by have := hF.size; omega
 refine Z.t 2 (#[Z.i (-1), .slice none 0 0]) (by (simp [Value.cells, Value.oneCell', Gs.cv, Gs.fv, Gs.ie, Gs.pe, Gs.oe, Gs.bT, Gs.fe, Gs.fC, Gs.ce, Gs.dX, Gs.re, Gs.de, Gs.ie]; done)) aS (fun w4 aS _ U4 => ?_)
 refine bH (fun g w' => ∃ (v4 : Value), (Z.h w' b3 #[Z.i (-1), v4] 54) ∧ (Own w.heap.size w' 37 5 v4 (rows Gs.cv (Gs.qQ cs (Gs.eU cs)))) ∧ (Own w.heap.size w' 54 2 (.slice (some ⟨b1, 0, none⟩) 0 0) (rows Gs.ie [])) ∧ (∀ k, aC (.slice (some ⟨b1, 0, none⟩) 0 0) k → ¬ aC v4 k) ∧ (Z.h w' bp #[Z.i r, Z.i c, .slice A cs.length cp, Z.i cur] 91) ∧ (Own B0 w' 37 5 (.slice A cs.length cp) (rows Gs.cv cs)) ∧ (az no w w')) (fun J1 hJ1 => ?_) (fun gJ1 jX hI => ?_)
 replace ae := (ae.ai U3).aA U4 gU
 replace af := U4.ak (U3.ag af) jO
 refine aG (eY af ae rfl) (fun w5 U5 => ?_)
 refine dW (fun g w' => ∃ (k : Nat) (v4 : Value), (g 13 = Z.i (k : Int)) ∧ (k ≤ cs.length) ∧ (Z.h w' b3 #[Z.i (-1), v4] 54) ∧ (Own w.heap.size w' 37 5 v4 (rows Gs.cv (Gs.qQ cs ((Gs.eU cs).take k)))) ∧ (Own w.heap.size w' 54 2 (.slice (some ⟨b1, 0, none⟩) 0 0) (rows Gs.ie [])) ∧ (∀ k, aC (.slice (some ⟨b1, 0, none⟩) 0 0) k → ¬ aC v4 k) ∧ (Z.h w' bp #[Z.i r, Z.i c, .slice A cs.length cp, Z.i cur] 91) ∧ (Own B0 w' 37 5 (.slice A cs.length cp) (rows Gs.cv cs)) ∧ (az no w w')) (fun g w' => cs.length - (RowKit.intOf (g 13)).toNat) ?_ (fun g2 qj hI => ?_)
 replace cu := ((cu.ai U3).aA U4 sU).ai U5
 replace hF := ((hF.go0 U3).go1 U4 jk).go0 U5
 replace ae := ae.ai U5
 replace af := U5.ag af
 replace aS := U5.ag aS
 exact ⟨0, _, (by rfl), Nat.zero_le _, aS, (by rw [List.take_zero]; exact Own.nil _ _ _ _), cu, (fun k _ hs => by cases hs), af, ae, hF⟩
 replace cu := ((cu.ai U3).aA U4 sU).ai U5
 replace hF := ((hF.go0 U3).go1 U4 jk).go0 U5
 replace ae := ae.ai U5
 replace af := U5.ag af
 replace aS := U5.ag aS
 obtain ⟨k, v4, g13, hk, aS, own4, cu, ho1, af, ae, hF⟩ := hI
 rw [g13]
 obtain ⟨A4, c4, rfl⟩ := Own.open Gs.jf own4
 have hrl := Gs.aeH cs ((Gs.eU cs).take k)
 rw [List.length_take] at hrl
 refine ay (lss _ _ _ _) (fun h6 => ?_) (fun h6 => ?_)
 refine aH ?_
 refine bH (fun g w' => ∃ (v4 : Value), (Z.h w' b3 #[Z.i (-1), v4] 54) ∧ (Own w.heap.size w' 37 5 v4 (rows Gs.cv (Gs.qQ cs ((Gs.eU cs).take (k + 1))))) ∧ (Own w.heap.size w' 54 2 (.slice (some ⟨b1, 0, none⟩) 0 0) (rows Gs.ie [])) ∧ (∀ k, aC (.slice (some ⟨b1, 0, none⟩) 0 0) k → ¬ aC v4 k) ∧ (Z.h w' bp #[Z.i r, Z.i c, .slice A cs.length cp, Z.i cur] 91) ∧ (Own B0 w' 37 5 (.slice A cs.length cp) (rows Gs.cv cs)) ∧ (az no w w')) (fun J3 hJ3 => ?_) (fun gJ3 Ha hI => ?_)
 refine aG (iI af ae rfl (i := (k : Int))) (fun w7 U7 => ?_)
 have hPk := Gs.yz (cs := cs) (k := k) (by omega)
 refine Z.n ((Gs.cv Gs.zc).toArray) (fun b8 w8 e8 dG _ U8 => ?_)
 replace aS := U7.ag aS
 have Gt : b3 ≠ b8 := by have := au aS; omega
 replace own4 := own4.ai U7
 have ww := own4.apart e8
 replace cu := cu.ai U7
 have yE := cu.apart e8
 replace af := U7.ag af
 have pO : bp ≠ b8 := by have := au af; omega
 replace ae := ae.ai U7
 have l7 := ae.apart e8
 replace hF := hF.go0 U7
 have rq : w.heap.size ≤ b8 := by have := hF.size; omega
 refine Z.t 5 ((Gs.cv (Gs.bJ cs (k : Int))).toArray) (by (simp [Value.cells, Value.oneCell', Gs.cv, Gs.fv, Gs.ie, Gs.pe, Gs.oe, Gs.bT, Gs.fe, Gs.fC, Gs.ce, Gs.dX, Gs.re, Gs.de, Gs.ie]; done)) dG (fun w9 dG _ U9 => ?_)
 refine Z.f 2 ?_
 refine mQ (kK (by kernel_rfl) dG (by rfl)) (fun h10 => ?_) (fun h10 => ?_)
 refine aj (lX) ?_
 refine bf (bf (bf (bf (qA (qA (bf (bG (aB ?_))))))))
 refine hJ3 _ _ ?_
 replace own4 := (own4.ai U8).aA U9 ww
 replace cu := (cu.ai U8).aA U9 yE
 replace ae := (ae.ai U8).aA U9 l7
 replace aS := U9.ak (U8.ag aS) Gt
 replace af := U9.ak (U8.ag af) pO
 replace hF := (hF.go0 U8).go1 U9 rq
 exact ⟨_, aS, (by (rw [← Gs.acN hPk (.inl (by assumption))]; exact own4)), cu, (by assumption), af, ae, hF⟩
 refine aj (mV) ?_
 refine bD ?_
 refine Z.f 0 ?_
 refine bD ?_
 refine Z.l dG ?_
 refine bD ?_
 refine ay (kL _ _ _ _ _) (fun h11 => ?_) (fun h11 => ?_)
 refine bD (bI (bI (bD (bu (bu (aH ?_))))))
 refine Z.f 1 ?_
 replace aS := U9.ak (U8.ag aS) Gt
 refine Z.l aS ?_
 refine Z.b 5 ((Gs.cv (Gs.bJ cs (k : Int))).toArray) dG ?_
 refine dD (e := 37) (m := 5) (z := #[Z.u 0, .bool false, .bool false, Z.u 0, Z.u 0]) (by kernel_rfl) (by kernel_rfl) (by rfl) (by decide) (by (simp [eP, splice, gq, Value.cells, Gs.cv, Gs.fv, Gs.ie, Gs.pe, Gs.oe, Gs.bT, Gs.fe, Gs.fC, Gs.ce, Gs.dX, Gs.re, Gs.de, Gs.ie]; rfl)) (fun b12 w12 e12 aaN _ cZ => ?_)
 have anO : b3 ≠ b12 := by have := au aS; omega
 replace own4 := (own4.ai U8).aA U9 ww
 have V8 := own4.apart e12
 replace cu := (cu.ai U8).aA U9 yE
 have aiP := cu.apart e12
 replace af := U9.ak (U8.ag af) pO
 have anP : bp ≠ b12 := by have := au af; omega
 replace ae := (ae.ai U8).aA U9 l7
 have aku := ae.apart e12
 have anQ : b8 ≠ b12 := by have := au dG; omega
 replace hF := (hF.go0 U8).go1 U9 rq
 have akv : w.heap.size ≤ b12 := by have := hF.size; omega
 replace own4 := own4.ai cZ
 replace hF := hF.go0 cZ
 refine ji (e := 37) (size := 5) (bytes := 5) (by kernel_rfl) own4 (show Rd _ (some ⟨b12, 0, none⟩) (rows Gs.cv [(Gs.bJ cs (k : Int))]) from Rd.lI aaN) (by exact dV Gs.jf _) (qC Gs.jf _) (by rw [dV Gs.jf, dV Gs.jf]; try simp only [List.length_nil, List.length_cons, List.length_take, List.length_append]; omega) (by have := hF.size; omega) (fun v13 uM N13 hA13 dI => ?_)
 have qE := own4
 replace cu := cu.ai cZ
 have alP := wQ (S' := w12) ho1 cu hA13
 replace dG := cZ.ag dG
 have nc13_b8 : ∀ k, aC v13 k → k ≠ b8 := fun k hk e => Or.elim (hA13 k hk) (fun h => ww k h e) (fun h => by have := au dG; omega)
 have aoO : ∀ k, aC v13 k → k ≠ b12 := fun k hk e => Or.elim (hA13 k hk) (fun h => V8 k h e) (fun h => by have := au aaN; omega)
 replace aS := cZ.ag aS
 replace aS := dI.get aS (fun h => Own.aP qE aS (by decide) _ h rfl)
 replace own4 := N13
 replace cu := cu.eH dI ho1
 replace af := cZ.ag af
 replace af := dI.get af (fun h => by (have := Own.ge qE h; omega))
 replace ae := ae.ai cZ
 replace ae := ae.eH dI (fun k hk hs => by have := jP k hk; have := (Own.ge qE hs).1; omega)
 replace hF := hF.go dI (fun i h hs => by (have := (Own.ge qE hs).1; omega))
 clear qE
 rw [lZ] at own4
 obtain ⟨A13, c13, rfl⟩ := Own.open Gs.jf own4
 refine Z.f 1 ?_
 refine Z.s aS (fun sJ aS _ dw => ?_)
 replace own4 := own4.aA dw (Own.aP own4 (by assumption) (by decide))
 refine hJ3 _ _ ?_
 simp only [List.length_append, List.length_cons, List.length_nil, Nat.zero_add] at own4
 replace cu := cu.aA dw sU
 replace ae := ae.aA dw gU
 replace af := dw.ak af jO
 replace hF := hF.go1 dw jk
 exact ⟨_, aS, (by (rw [← Gs.acO hPk (by assumption) (Gs.agI (by assumption))]; exact own4)), cu, (by (simp only [List.length_append, List.length_cons, List.length_nil, Nat.zero_add] at *; assumption)), af, ae, hF⟩
 refine bD (bP ?_)
 refine Z.f 1 ?_
 refine bP ?_
 refine mQ (kK (by kernel_rfl) dG (by rfl)) (fun h15 => ?_) (fun h15 => ?_)
 refine bD (bG (bu (aH ?_)))
 refine Z.f 1 ?_
 replace aS := U9.ak (U8.ag aS) Gt
 refine Z.l aS ?_
 refine Z.b 5 ((Gs.cv (Gs.bJ cs (k : Int))).toArray) dG ?_
 refine dD (e := 37) (m := 5) (z := #[Z.u 0, .bool false, .bool false, Z.u 0, Z.u 0]) (by kernel_rfl) (by kernel_rfl) (by rfl) (by decide) (by (simp [eP, splice, gq, Value.cells, Gs.cv, Gs.fv, Gs.ie, Gs.pe, Gs.oe, Gs.bT, Gs.fe, Gs.fC, Gs.ce, Gs.dX, Gs.re, Gs.de, Gs.ie]; rfl)) (fun b16 w16 e16 iG _ bZ => ?_)
 have anR : b3 ≠ b16 := by have := au aS; omega
 replace own4 := (own4.ai U8).aA U9 ww
 have V9 := own4.apart e16
 replace cu := (cu.ai U8).aA U9 yE
 have aiQ := cu.apart e16
 replace af := U9.ak (U8.ag af) pO
 have acK : bp ≠ b16 := by have := au af; omega
 replace ae := (ae.ai U8).aA U9 l7
 have Um := ae.apart e16
 have anS : b8 ≠ b16 := by have := au dG; omega
 replace hF := (hF.go0 U8).go1 U9 rq
 have BL : w.heap.size ≤ b16 := by have := hF.size; omega
 replace own4 := own4.ai bZ
 replace hF := hF.go0 bZ
 refine ji (e := 37) (size := 5) (bytes := 5) (by kernel_rfl) own4 (show Rd _ (some ⟨b16, 0, none⟩) (rows Gs.cv [(Gs.bJ cs (k : Int))]) from Rd.lI iG) (by exact dV Gs.jf _) (qC Gs.jf _) (by rw [dV Gs.jf, dV Gs.jf]; try simp only [List.length_nil, List.length_cons, List.length_take, List.length_append]; omega) (by have := hF.size; omega) (fun v17 uo N17 hA17 bY => ?_)
 have qE := own4
 replace cu := cu.ai bZ
 have alQ := wQ (S' := w16) ho1 cu hA17
 replace dG := bZ.ag dG
 have nc17_b8 : ∀ k, aC v17 k → k ≠ b8 := fun k hk e => Or.elim (hA17 k hk) (fun h => ww k h e) (fun h => by have := au dG; omega)
 have aeG : ∀ k, aC v17 k → k ≠ b16 := fun k hk e => Or.elim (hA17 k hk) (fun h => V9 k h e) (fun h => by have := au iG; omega)
 replace aS := bZ.ag aS
 replace aS := bY.get aS (fun h => Own.aP qE aS (by decide) _ h rfl)
 replace own4 := N17
 replace cu := cu.eH bY ho1
 replace af := bZ.ag af
 replace af := bY.get af (fun h => by (have := Own.ge qE h; omega))
 replace ae := ae.ai bZ
 replace ae := ae.eH bY (fun k hk hs => by have := jP k hk; have := (Own.ge qE hs).1; omega)
 replace hF := hF.go bY (fun i h hs => by (have := (Own.ge qE hs).1; omega))
 clear qE
 rw [lZ] at own4
 obtain ⟨A17, c17, rfl⟩ := Own.open Gs.jf own4
 refine Z.f 1 ?_
 refine Z.s aS (fun uY aS _ dE => ?_)
 replace own4 := own4.aA dE (Own.aP own4 (by assumption) (by decide))
 refine hJ3 _ _ ?_
 simp only [List.length_append, List.length_cons, List.length_nil, Nat.zero_add] at own4
 replace cu := cu.aA dE sU
 replace ae := ae.aA dE gU
 replace af := dE.ak af jO
 replace hF := hF.go1 dE jk
 exact ⟨_, aS, (by (rw [← Gs.acO hPk (by assumption) (Gs.agJ (by assumption))]; exact own4)), cu, (by (simp only [List.length_append, List.length_cons, List.length_nil, Nat.zero_add] at *; assumption)), af, ae, hF⟩
 refine bD (bG (bu (aB ?_)))
 refine hJ3 _ _ ?_
 replace own4 := (own4.ai U8).aA U9 ww
 replace cu := (cu.ai U8).aA U9 yE
 replace ae := (ae.ai U8).aA U9 l7
 replace aS := U9.ak (U8.ag aS) Gt
 replace af := U9.ak (U8.ag af) pO
 replace hF := (hF.go0 U8).go1 U9 rq
 exact ⟨_, aS, (by (rw [← Gs.acN hPk (.inr (Gs.agK (Classical.not_not.1 (by assumption)) (by assumption)))]; exact own4)), cu, (by assumption), af, ae, hF⟩
 obtain ⟨v4, aS, own4, cu, ho1, af, ae, hF⟩ := hI
 obtain ⟨A4, c4, rfl⟩ := Own.open Gs.jf own4
 refine aj (dF _ (by omega)) ?_
 exact ⟨⟨k + 1, _, (by rfl), by omega, aS, own4, cu, (by assumption), af, ae, hF⟩, cnt_lt (by rfl) rfl (by omega)⟩
 refine aB ?_
 refine hJ1 _ _ ?_
 rw [List.take_of_length_le (by omega)] at own4 aS ho1
 exact ⟨_, aS, own4, cu, ho1, af, ae, hF⟩
 replace ae := (ae.ai U3).aA U4 gU
 replace cu := (cu.ai U3).aA U4 sU
 replace af := U4.ak (U3.ag af) jO
 replace hF := (hF.go0 U3).go1 U4 jk
 obtain ⟨v4, aS, own4, cu, ho1, af, ae, hF⟩ := hI
 obtain ⟨A4, c4, rfl⟩ := Own.open Gs.jf own4
 refine dS (AC af ae rfl hN hb) (fun yK eu h19 => ?_) (fun yK eu h19 => ?_)
 simp only [Z.d, Z.c] at h19
 refine aj (lX) ?_
 refine aB ?_
 refine bH (fun g w' => ∃ (l3 : List Gs.It) (v3 : Value), (g 3 = v3) ∧ (Gs.its l3 = Gs.uU cs) ∧ (∀ k, Gs.qB l3 k → w.heap.size ≤ k) ∧ (Own w.heap.size w' 54 2 v3 (rows Gs.ie l3)) ∧ (Gs.Cl w' l3) ∧ (az no w w')) (fun J4 hJ4 => ?_) (fun gJ4 wJ4 hI => ?_)
 replace ae := ae.ai eu
 replace af := eu.ag af
 refine aG (eY af ae rfl) (fun wE dJ => ?_)
 refine dW (fun g w' => ∃ (k : Nat) (l3 : List Gs.It) (v3 : Value), (g 52 = Z.i (k : Int)) ∧ (k ≤ cs.length) ∧ (g 3 = v3) ∧ (Gs.its l3 = Gs.zI cs k) ∧ (l3.length ≤ k) ∧ (∀ k, Gs.qB l3 k → w.heap.size ≤ k) ∧ (l3 = [] ∨ ∀ k, Gs.qB l3 k → ¬ aC v3 k) ∧ (Own w.heap.size w' 54 2 v3 (rows Gs.ie l3)) ∧ (Gs.Cl w' l3) ∧ (Z.h w' bp #[Z.i r, Z.i c, .slice A cs.length cp, Z.i cur] 91) ∧ (Own B0 w' 37 5 (.slice A cs.length cp) (rows Gs.cv cs)) ∧ (az no w w')) (fun g w' => cs.length - (RowKit.intOf (g 52)).toNat) ?_ (fun g5 wl5 hI => ?_)
 replace cu := (cu.ai eu).ai dJ
 replace hF := (hF.go0 eu).go0 dJ
 replace ae := ae.ai dJ
 replace af := dJ.ag af
 exact ⟨0, [], _, (by rfl), Nat.zero_le _, (by rfl), rfl, (Nat.zero_le _), (fun k ⟨y, hy, _⟩ => by cases hy), (.inl rfl), cu, (Gs.Cl.nil _), af, ae, hF⟩
 replace hF := (hF.go0 eu).go0 dJ
 replace ae := ae.ai dJ
 replace af := dJ.ag af
 obtain ⟨k, l3, v3, g52, hk, g3, hw3, hl3, hcg3, hcs3, aW, nJ, af, ae, hF⟩ := hI
 rw [g52]
 rw [g3]
 have hgw := Gs.qY hcw (k : Int)
 refine ay (lss _ _ _ _) (fun h21 => ?_) (fun h21 => ?_)
 refine aH ?_
 refine bH (fun g w' => ∃ (l3 : List Gs.It) (v3 : Value), (g 3 = v3) ∧ (Gs.its l3 = Gs.zI cs (k + 1)) ∧ (l3.length ≤ k + 1) ∧ (∀ k, Gs.qB l3 k → w.heap.size ≤ k) ∧ (l3 = [] ∨ ∀ k, Gs.qB l3 k → ¬ aC v3 k) ∧ (Own w.heap.size w' 54 2 v3 (rows Gs.ie l3)) ∧ (Gs.Cl w' l3) ∧ (Z.h w' bp #[Z.i r, Z.i c, .slice A cs.length cp, Z.i cur] 91) ∧ (Own B0 w' 37 5 (.slice A cs.length cp) (rows Gs.cv cs)) ∧ (az no w w')) (fun J6 hJ6 => ?_) (fun gJ6 wJ6 hI => ?_)
 refine aG (iI af ae rfl (i := (k : Int))) (fun ED fB => ?_)
 refine Z.n ((Gs.cv Gs.zc).toArray) (fun b23 AB e23 uQ _ eF => ?_)
 replace aW := aW.ai fB
 have zJ := aW.apart e23
 replace nJ := nJ.ai fB
 have Ej := nJ.apart e23
 replace af := fB.ag af
 have Du : bp ≠ b23 := by have := au af; omega
 replace ae := ae.ai fB
 have yf := ae.apart e23
 replace hF := hF.go0 fB
 have L8 : w.heap.size ≤ b23 := by have := hF.size; omega
 refine Z.t 5 ((Gs.cv (Gs.bJ cs (k : Int))).toArray) (by (simp [Value.cells, Value.oneCell', Gs.cv, Gs.fv, Gs.ie, Gs.pe, Gs.oe, Gs.bT, Gs.fe, Gs.fC, Gs.ce, Gs.dX, Gs.re, Gs.de, Gs.ie]; done)) uQ (fun Po uQ _ jm => ?_)
 refine Z.f 2 ?_
 refine mQ (kK (by kernel_rfl) uQ (by rfl)) (fun h25 => ?_) (fun h25 => ?_)
 refine bD ?_
 refine Z.f 0 ?_
 refine bD ?_
 refine Z.l uQ ?_
 refine bD ?_
 refine aj (Q8 _ (by omega)) ?_
 refine bD ?_
 refine ay (dC _ _ _ _ _) (fun h26 => ?_) (fun h26 => ?_)
 refine bu (aH ?_)
 replace cu := (cu.ai eu).ai dJ
 replace aW := (aW.ai eF).aA jm zJ
 replace nJ := (nJ.ai eF).aA jm Ej
 replace ae := (ae.ai eF).aA jm yf
 replace af := jm.ak (eF.ag af) Du
 replace hF := (hF.go0 eF).go1 jm L8
 refine aJ (Ul af ae rfl (i := (k : Int)) (by omega) hN hb (by assumption)) (fun v27 Ic D27 => ?_)
 obtain ⟨A69, c69, rfl, wz, ig⟩ := D27
 have DR : ∀ k, aC _ k → ¬ aC _ k := fun k hk hs => by have := (Own.ge aW hk).2; have := (Own.ge wz hs).1; omega
 have agL : _ ∨ ∀ k, _ → ¬ aC _ k := (nJ.lt).imp_right fun h k hk hs => by have := h k hk; have := (Own.ge wz hs).1; omega
 have agM : ¬ aC _ bp := fun h => by have := (Own.ge wz h).1; have := au af; omega
 have aeI : ∀ k, aC _ k → ¬ aC _ k := fun k hk hs => by have := (Own.ge ae hk).2; have := (Own.ge wz hs).1; omega
 have aeJ : ¬ aC _ b23 := fun h => by have := (Own.ge wz h).1; have := au uQ; omega
 replace wz := wz.mono (B' := w.heap.size) hF.size
 replace nJ := nJ.ai ig
 replace nJ := nJ.snoc (x := (⟨(((k : Int) + 1) % (cs.length : Int)), A69, c69, (Gs.mZ cs (Gs.dZ cs.length (Gs.je cs (k : Int))))⟩ : Gs.It)) wz.xC
 replace hcs3 := Gs.Xh (y := (⟨(((k : Int) + 1) % (cs.length : Int)), A69, c69, (Gs.mZ cs (Gs.dZ cs.length (Gs.je cs (k : Int))))⟩ : Gs.It)) hcs3 DR
 replace hF := hF.go0 ig
 replace hcg3 := Gs.Tz (y := (⟨(((k : Int) + 1) % (cs.length : Int)), A69, c69, (Gs.mZ cs (Gs.dZ cs.length (Gs.je cs (k : Int))))⟩ : Gs.It)) hcg3 (wz.mono (by have := hF.size; omega))
 refine dD (e := 54) (m := 2) (z := #[Z.i 0, .slice none 0 0]) (by kernel_rfl) (by kernel_rfl) (by rfl) (by decide) (by (simp [eP, splice, gq, Value.cells, Gs.cv, Gs.fv, Gs.ie, Gs.pe, Gs.oe, Gs.bT, Gs.fe, Gs.fC, Gs.ce, Gs.dX, Gs.re, Gs.de, Gs.ie]; rfl)) (fun b28 PD e28 agN _ jJ => ?_)
 replace aW := aW.ai ig
 have We := aW.apart e28
 have alR := nJ.apart e28
 replace af := ig.ag af
 have anT : bp ≠ b28 := by have := au af; omega
 replace ae := ae.ai ig
 have akw := ae.apart e28
 replace uQ := ig.ag uQ
 have amv : b23 ≠ b28 := by have := au uQ; omega
 have akx := wz.apart e28
 have ge_b28 : w.heap.size ≤ b28 := by have := hF.size; omega
 replace aW := aW.ai jJ
 replace hF := hF.go0 jJ
 refine ji (e := 54) (size := 2) (bytes := 32) (by kernel_rfl) aW (show Rd _ (some ⟨b28, 0, none⟩) (rows Gs.ie [(⟨(((k : Int) + 1) % (cs.length : Int)), A69, c69, (Gs.mZ cs (Gs.dZ cs.length (Gs.je cs (k : Int))))⟩ : Gs.It)]) from Rd.lI agN) (by exact dV Gs.kH _) (qC Gs.kH _) (by rw [dV Gs.kH, dV Gs.kH]; try simp only [List.length_nil, List.length_cons, List.length_take, List.length_append]; omega) (by have := hF.size; omega) (fun v29 Px N29 hA29 jc => ?_)
 have fK := aW
 replace nJ := nJ.ai jJ
 have anU := Gs.abS (S' := PD) hcs3 nJ hA29
 replace wz := wz.ai jJ
 have amw := wQ (S' := PD) (fun k hk hs => DR k hs hk) wz hA29
 replace uQ := jJ.ag uQ
 have aoP : ∀ k, aC v29 k → k ≠ b23 := fun k hk e => Or.elim (hA29 k hk) (fun h => zJ k h e) (fun h => by have := au uQ; omega)
 have aoQ : ∀ k, aC v29 k → k ≠ b28 := fun k hk e => Or.elim (hA29 k hk) (fun h => We k h e) (fun h => by have := au agN; omega)
 replace aW := N29
 replace nJ := nJ.eH jc hcs3
 replace af := jJ.ag af
 replace af := jc.get af (fun h => by (have := Own.ge fK h; omega))
 replace ae := ae.ai jJ
 replace ae := ae.eH jc (fun k hk hs => by have := jP k hk; have := (Own.ge fK hs).1; omega)
 replace hF := hF.go jc (fun i h hs => by (have := (Own.ge fK hs).1; omega))
 clear fK
 rw [lZ] at aW
 obtain ⟨A29, c29, rfl⟩ := Own.open Gs.kH aW
 refine hJ6 _ _ ?_
 exact ⟨_, _, (by rfl), (by (rw [Gs.TA, hw3]; exact Gs.ah5 (by assumption) (by assumption))), (by (simp only [List.length_append, List.length_cons, List.length_nil]; omega)), hcg3, (by assumption), aW, nJ, af, ae, hF⟩
 refine bu (aB ?_)
 refine hJ6 _ _ ?_
 replace cu := (cu.ai eu).ai dJ
 replace aW := (aW.ai eF).aA jm zJ
 replace nJ := (nJ.ai eF).aA jm Ej
 replace ae := (ae.ai eF).aA jm yf
 replace af := jm.ak (eF.ag af) Du
 replace hF := (hF.go0 eF).go1 jm L8
 exact ⟨_, _, (by exact g3), (by (rw [hw3]; exact Gs.XB (.inr (by assumption)))), (by omega), hcg3, (by assumption), aW, nJ, af, ae, hF⟩
 refine bf (bf (bf (bf (bG (aB ?_)))))
 refine hJ6 _ _ ?_
 replace cu := (cu.ai eu).ai dJ
 replace aW := (aW.ai eF).aA jm zJ
 replace nJ := (nJ.ai eF).aA jm Ej
 replace ae := (ae.ai eF).aA jm yf
 replace af := jm.ak (eF.ag af) Du
 replace hF := (hF.go0 eF).go1 jm L8
 exact ⟨_, _, (by exact g3), (by (rw [hw3]; exact Gs.XB (.inl (by assumption)))), (by omega), hcg3, (by assumption), aW, nJ, af, ae, hF⟩
 obtain ⟨l3, v3, g3, hw3, hl3, hcg3, hcs3, aW, nJ, af, ae, hF⟩ := hI
 refine aj (dF _ (by omega)) ?_
 replace cu := (cu.ai eu).ai dJ
 exact ⟨⟨k + 1, _, _, (by rfl), by omega, (by exact g3), hw3, hl3, hcg3, (by assumption), aW, nJ, af, ae, hF⟩, cnt_lt (by rfl) rfl (by omega)⟩
 refine aB ?_
 refine hJ4 _ _ ?_
 replace cu := (cu.ai eu).ai dJ
 exact ⟨_, _, (by exact g3), (by rw [hw3, show k = cs.length by omega]; exact Gs.ah6 hp (by assumption)), hcg3, aW, nJ, hF⟩
 replace hF := hF.go0 eu
 obtain ⟨l3, v3, g3, hw3, hcg3, aW, nJ, hF⟩ := hI
 rw [g3]
 (obtain ⟨A3, c3, rfl⟩ := Own.open Gs.kH aW; exact ⟨_, rfl, l3, A3, c3, rfl, hw3, aW.xC, nJ, .inr (fun k hk => (aW.G5 k hk).1), .inr hcg3, hF⟩)
 simp only [Z.d, Z.c] at h19
 refine aj (mV) ?_
 refine aH ?_
 refine bH (fun g w' => ∃ (l3 : List Gs.It) (v3 : Value), (g 3 = v3) ∧ (Own w.heap.size w' 54 2 v3 (rows Gs.ie l3)) ∧ (Gs.its l3 = Gs.uU cs) ∧ (∀ k, Gs.qB l3 k → w.heap.size ≤ k) ∧ (Gs.Cl w' l3) ∧ (az no w w')) (fun J7 hJ7 => ?_) (fun gJ7 wJ7 hI => ?_)
 refine Z.f 1 ?_
 replace aS := eu.ag aS
 refine Z.l aS ?_
 refine aj (gm (by kernel_rfl) _ _ _) ?_
 refine ay (gtr _ _ _ _) (fun h31 => ?_) (fun h31 => ?_)
 refine aH ?_
 refine Z.b 2 _ aS ?_
 refine dD (e := 54) (m := 2) (z := #[Z.i 0, .slice none 0 0]) (by kernel_rfl) (by kernel_rfl) (by rfl) (by decide) (by (simp [eP, splice, gq, Value.cells, Gs.cv, Gs.fv, Gs.ie, Gs.pe, Gs.oe, Gs.bT, Gs.fe, Gs.fC, Gs.ce, Gs.dX, Gs.re, Gs.de, Gs.ie]; rfl)) (fun b32 w32 e32 zK _ kw => ?_)
 have anV : b3 ≠ b32 := by have := au aS; omega
 replace own4 := own4.ai eu
 have alS := own4.apart e32
 replace cu := cu.ai eu
 have QT := cu.apart e32
 replace af := eu.ag af
 have anW : bp ≠ b32 := by have := au af; omega
 replace ae := ae.ai eu
 have aky := ae.apart e32
 replace hF := hF.go0 eu
 have Uo : w.heap.size ≤ b32 := by have := hF.size; omega
 replace cu := cu.ai kw
 replace hF := hF.go0 kw
 refine ji (e := 54) (size := 2) (bytes := 32) (by kernel_rfl) cu (show Rd _ (some ⟨b32, 0, none⟩) (rows Gs.ie [(⟨(-1), A4, c4, (Gs.qQ cs (Gs.eU cs))⟩ : Gs.It)]) from Rd.lI zK) (by exact dV Gs.kH _) (qC Gs.kH _) (by rw [dV Gs.kH, dV Gs.kH]; try simp only [List.length_nil, List.length_cons, List.length_take, List.length_append]; omega) (by have := hF.size; omega) (fun v33 w33 N33 hA33 nX => ?_)
 have nS := cu
 replace own4 := own4.ai kw
 have anX := wQ (S' := w32) (fun k hk hs => ho1 k hs hk) own4 hA33
 replace af := kw.ag af
 have anY := SC (S' := w32) (fun hs => by cases hs; exact jW rfl) af hA33
 replace ae := ae.ai kw
 have amx := wQ (S' := w32) (fun k hk hs => by cases hs; exact gV _ hk rfl) ae hA33
 replace aS := kw.ag aS
 have nc33_b3 : ∀ k, aC v33 k → k ≠ b3 := fun k hk e => Or.elim (hA33 k hk) (fun h => sU k h e) (fun h => by have := au aS; omega)
 have aoR : ∀ k, aC v33 k → k ≠ b32 := fun k hk e => Or.elim (hA33 k hk) (fun h => QT k h e) (fun h => by have := au zK; omega)
 replace own4 := own4.eH nX (fun k hk hs => ho1 k hs hk)
 replace cu := N33
 replace hF := hF.go nX (fun i h hs => by (have := (Own.ge nS hs).1; omega))
 clear nS
 rw [lZ] at cu
 simp only [List.nil_append] at cu
 obtain ⟨A33, c33, rfl⟩ := Own.open Gs.kH cu
 refine hJ7 _ _ ?_
 exact ⟨_, _, (by rfl), cu, (by exact (Gs.ah7 hp (by omega) (fun e => by have := congrArg List.length e; simp only [List.length_nil] at this; omega)).symm), (Gs.Tz (l := []) (y := (⟨(-1), A4, c4, (Gs.qQ cs (Gs.eU cs))⟩ : Gs.It)) (fun k hk => absurd hk.choose_spec.1 (by simp)) own4), (by exact (Gs.Cl.nil _).snoc (x := (⟨(-1), A4, c4, (Gs.qQ cs (Gs.eU cs))⟩ : Gs.It)) own4.xC), hF⟩
 refine aB ?_
 refine hJ7 _ _ ?_
 replace cu := cu.ai eu
 replace hF := hF.go0 eu
 exact ⟨_, _, (by rfl), cu, (by exact (Gs.ah8 hp (by omega) (List.length_eq_zero_iff.1 (by omega))).symm), (by exact fun k hk => absurd hk.choose_spec.1 (by simp)), (Gs.Cl.nil _), hF⟩
 replace hF := hF.go0 eu
 obtain ⟨l3, v3, g3, aW, hw3, hcg3, nJ, hF⟩ := hI
 rw [g3]
 (obtain ⟨A3, c3, rfl⟩ := Own.open Gs.kH aW; exact ⟨_, rfl, l3, A3, c3, rfl, hw3, aW.xC, nJ, .inr (fun k hk => (aW.G5 k hk).1), .inr hcg3, hF⟩)
theorem Ny {b : Int} {w : World} :
    oX 10 #[Z.u b] w fun e w' => e = .returned (.bool (decide (b = 109 ∨ b = 108 ∨ b = 110 ∨ b = 107))) ∧ az no w w' := by
 refine F10.calls ?_
 unfold F10
 have hF : az no w w := Fr.refl _ _ _
 refine aG (Cf) (fun w1 U1 => ?_)
 refine ay (neS _ _ _ _) (fun h2 => ?_) (fun h2 => ?_)
 refine bD (bD ?_)
 refine aj (kL _ _ _ _ _) ?_
 refine bu ?_
 replace hF := hF.go0 U1
 exact ⟨(congrArg (fun q => Ending.returned (Value.bool q)) (Gs.ahL (by assumption))), hF⟩
 refine bf (bf (bG ?_))
 replace hF := hF.go0 U1
 exact ⟨(congrArg (fun q => Ending.returned (Value.bool q)) (Gs.ahM (by assumption))), hF⟩
theorem Nz {c : Gs.Cell} {w : World} :
    oX 142 #[.agg (Gs.cv c).toArray] w fun e w' => e = .returned (.bool (Gs.jT c)) ∧ az no w w' := by
 refine Ze.calls ?_
 unfold Ze
 have hF : az no w w := Fr.refl _ _ _
 refine Z.x ((Gs.cv c).toArray) (fun b1 w1 e1 ah _ U1 => ?_)
 refine Z.f 0 ?_
 refine Z.l ah ?_
 refine ay (dC _ _ _ _ _) (fun h2 => ?_) (fun h2 => ?_)
 refine bD ?_
 refine Z.f 1 ?_
 refine bD ?_
 refine Z.l ah ?_
 refine bD ?_
 refine aj (Ak _) ?_
 refine bu ?_
 replace hF := hF.go0 U1
 exact ⟨(congrArg (fun q => Ending.returned (Value.bool q)) (Gs.ahJ (by assumption))), hF⟩
 refine bf (bf (bf (bG ?_)))
 replace hF := hF.go0 U1
 exact ⟨(congrArg (fun q => Ending.returned (Value.bool q)) (Gs.ahK (by assumption))), hF⟩
theorem NC {c : Gs.Cell} {w : World} :
    oX 69 #[.agg (Gs.cv c).toArray] w fun e w' => ∃ v, e = .returned v ∧ Own w.heap.size w' 5 1 v (vals .u8 (Gs.nP c)) ∧ az no w w' := by
 refine F69.calls ?_
 unfold F69
 have hF : az no w w := Fr.refl _ _ _
 refine Z.x ((Gs.cv c).toArray) (fun b1 w1 e1 ah _ U1 => ?_)
 have bU : w.heap.size ≤ b1 := by have := hF.size; omega
 refine Z.f 1 ?_
 refine mQ (kK (by kernel_rfl) ah (by rfl)) (fun h2 => ?_) (fun h2 => ?_)
 refine bD ?_
 refine Z.f 0 ?_
 refine bD ?_
 refine Z.l ah ?_
 refine bD ?_
 refine ay (lss _ _ _ _) (fun h3 => ?_) (fun h3 => ?_)
 refine bu (aH ?_)
 refine dD (e := 5) (m := 1) (z := #[Z.u 0]) (by kernel_rfl) (by kernel_rfl) (by rfl) (by decide) (by (simp [eP, splice, gq, Value.cells, Gs.cv, Gs.fv, Gs.ie]; rfl)) (fun b4 w4 e4 dh _ U4 => ?_)
 have lu : b1 ≠ b4 := by have := au ah; omega
 replace hF := hF.go0 U1
 have lV : w.heap.size ≤ b4 := by have := hF.size; omega
 replace hF := hF.go0 U4
 exact ⟨_, rfl, by rw [Gs.ael (by assumption) (by assumption)]; exact Own.of_block (n := 2) (xs := [_, _]) (by assumption) (by omega) rfl (by decide), hF⟩
 refine bu (aB ?_)
 refine Z.f 1 ?_
 refine mQ (kK (by kernel_rfl) ah (by rfl)) (fun h6 => ?_) (fun h6 => ?_)
 refine aH ?_
 refine Z.f 0 ?_
 refine Z.l ah ?_
 refine dD (e := 5) (m := 1) (z := #[Z.u 0]) (by kernel_rfl) (by kernel_rfl) (by rfl) (by decide) (by (simp [eP, splice, gq, Value.cells, Gs.cv, Gs.fv, Gs.ie]; rfl)) (fun b7 w7 e7 pM _ U7 => ?_)
 have KG : b1 ≠ b7 := by have := au ah; omega
 replace hF := hF.go0 U1
 have xY : w.heap.size ≤ b7 := by have := hF.size; omega
 replace hF := hF.go0 U7
 exact ⟨_, rfl, by rw [Gs.aem (by assumption) (by assumption)]; exact Own.of_block (n := 2) (xs := [_, _]) (by assumption) (by omega) rfl (by decide), hF⟩
 refine aB ?_
 refine Z.f 0 ?_
 refine Z.l ah ?_
 refine dS (qU) (fun w9 U9 h9 => ?_) (fun w9 U9 h9 => ?_)
 refine aj (lX) ?_
 refine aB ?_
 refine Z.f 0 ?_
 replace ah := U9.ag ah
 refine Z.l ah ?_
 refine dD (e := 5) (m := 1) (z := #[Z.u 0]) (by kernel_rfl) (by kernel_rfl) (by rfl) (by decide) (by (simp [eP, splice, gq, Value.cells, Gs.cv, Gs.fv, Gs.ie]; rfl)) (fun b10 w10 e10 oO _ aT => ?_)
 have xG : b1 ≠ b10 := by have := au ah; omega
 replace hF := (hF.go0 U1).go0 U9
 have EG : w.heap.size ≤ b10 := by have := hF.size; omega
 replace hF := hF.go0 aT
 exact ⟨_, rfl, by rw [Gs.TQ (by assumption) (by simp_all)]; exact Own.of_block (n := 1) (xs := [_]) (by assumption) (by omega) rfl (by decide), hF⟩
 refine aj (mV) ?_
 refine aH ?_
 refine dD (e := 5) (m := 1) (z := #[Z.u 0]) (by kernel_rfl) (by kernel_rfl) (by rfl) (by decide) (by (simp [eP, splice, gq, Value.cells, Gs.cv, Gs.fv, Gs.ie]; rfl)) (fun b12 w12 e12 aaN _ cZ => ?_)
 replace ah := U9.ag ah
 have an2 : b1 ≠ b12 := by have := au ah; omega
 replace hF := (hF.go0 U1).go0 U9
 have akv : w.heap.size ≤ b12 := by have := hF.size; omega
 replace hF := hF.go0 cZ
 exact ⟨_, rfl, by rw [Gs.TP (by assumption) (by simp_all)]; exact Own.of_block (n := 1) (xs := [_]) (by assumption) (by omega) rfl (by decide), hF⟩
 refine bf (bf (bf (bG (aB ?_))))
 refine Z.f 1 ?_
 refine mQ (kK (by kernel_rfl) ah (by rfl)) (fun h14 => ?_) (fun h14 => ?_)
 refine aH ?_
 refine Z.f 0 ?_
 refine Z.l ah ?_
 refine dD (e := 5) (m := 1) (z := #[Z.u 0]) (by kernel_rfl) (by kernel_rfl) (by rfl) (by decide) (by (simp [eP, splice, gq, Value.cells, Gs.cv, Gs.fv, Gs.ie]; rfl)) (fun b15 uN e15 h_b15 _ dH => ?_)
 have an3 : b1 ≠ b15 := by have := au ah; omega
 replace hF := hF.go0 U1
 have ge_b15 : w.heap.size ≤ b15 := by have := hF.size; omega
 replace hF := hF.go0 dH
 exact absurd (Eq.trans (Eq.symm (show c.ge = true by assumption)) (show c.ge = false by assumption)) (by decide)
 refine aB ?_
 refine Z.f 0 ?_
 refine Z.l ah ?_
 refine dS (qU) (fun uo bY h17 => ?_) (fun uo bY h17 => ?_)
 refine aj (lX) ?_
 refine aB ?_
 refine Z.f 0 ?_
 replace ah := bY.ag ah
 refine Z.l ah ?_
 refine dD (e := 5) (m := 1) (z := #[Z.u 0]) (by kernel_rfl) (by kernel_rfl) (by rfl) (by decide) (by (simp [eP, splice, gq, Value.cells, Gs.cv, Gs.fv, Gs.ie]; rfl)) (fun b18 uY e18 YL _ dE => ?_)
 have abB : b1 ≠ b18 := by have := au ah; omega
 replace hF := (hF.go0 U1).go0 bY
 have ajo : w.heap.size ≤ b18 := by have := hF.size; omega
 replace hF := hF.go0 dE
 exact ⟨_, rfl, by rw [Gs.TQ (by assumption) (by simp_all)]; exact Own.of_block (n := 1) (xs := [_]) (by assumption) (by omega) rfl (by decide), hF⟩
 refine aj (mV) ?_
 refine aH ?_
 refine dD (e := 5) (m := 1) (z := #[Z.u 0]) (by kernel_rfl) (by kernel_rfl) (by rfl) (by decide) (by (simp [eP, splice, gq, Value.cells, Gs.cv, Gs.fv, Gs.ie]; rfl)) (fun b20 wE e20 aaM _ dJ => ?_)
 replace ah := bY.ag ah
 have acM : b1 ≠ b20 := by have := au ah; omega
 replace hF := (hF.go0 U1).go0 bY
 have aks : w.heap.size ≤ b20 := by have := hF.size; omega
 replace hF := hF.go0 dJ
 exact ⟨_, rfl, by rw [Gs.TP (by assumption) (by simp_all)]; exact Own.of_block (n := 1) (xs := [_]) (by assumption) (by omega) rfl (by decide), hF⟩
theorem ND {r c cur : Int} {A : Option Addr} {n cp bp B0 : Nat} {cs : List Gs.Cell} {w : World} (af : Z.h w bp #[Z.i r, Z.i c, .slice A n cp, Z.i cur] 91) (ae : Own B0 w 37 5 (.slice A n cp) (rows Gs.cv cs)) (hn : n = cs.length) {i : Int} :
    oX 67 #[Z.p bp, Z.i i] w fun e w' => ∃ v, e = .returned v ∧ ∃ A' c', v = .slice A' 2 c' ∧ Rd w' A' (vals .u8 [(Gs.mD i n).1, (Gs.mD i n).2.1]) ∧ uK A' (vals .u8 [(Gs.mD i n).1, (Gs.mD i n).2.1]) w.heap.size ∧ az no w w' := by
 refine F67.calls ?_
 unfold F67
 have hF : az no w w := Fr.refl _ _ _
 refine aG (eY af ae hn) (fun w1 U1 => ?_)
 refine aG (QN (p := i) (n := n)) (fun w2 U2 => ?_)
 refine Z.e ?_
 refine Z.e ?_
 refine Z.n (#[Z.u 0, Z.u 0]) (fun b3 w3 e3 aS _ U3 => ?_)
 replace hF := (hF.go0 U1).go0 U2
 have jk : w.heap.size ≤ b3 := by have := hF.size; omega
 refine Z.t 2 (#[Z.u (Gs.mD i n).1, Z.u (Gs.mD i n).2.1]) (by (simp [Value.cells, Value.oneCell', Gs.cv, Gs.fv, Gs.ie]; done)) aS (fun w4 aS _ U4 => ?_)
 refine aj (aen (n := 2) (m := 1) (by kernel_rfl)) ?_
 replace hF := (hF.go0 U3).go1 U4 jk
 exact ⟨_, rfl, _, _, rfl, Rd.lI (xs := vals .u8 [(Gs.mD i n).1, (Gs.mD i n).2.1]) aS, .inr (fun k ⟨a, ea, ek⟩ => by cases ea; subst ek; show _ ≤ _; omega), hF⟩
theorem aaT {r c cur : Int} {A : Option Addr} {n cp bp B0 : Nat} {cs : List Gs.Cell} {w : World} (af : Z.h w bp #[Z.i r, Z.i c, .slice A n cp, Z.i cur] 91) (ae : Own B0 w 37 5 (.slice A n cp) (rows Gs.cv cs)) (hn : n = cs.length) (hb : n ≤ 4096)  :
    oX 99 #[Z.p bp] w fun e w' => ∃ v, e = .returned v ∧ Own w.heap.size w' 5 1 v (vals .u8 (Gs.lC cs (Gs.eU cs))) ∧ az no w w' := by
 refine F99.calls ?_
 unfold F99
 subst hn
 have uA := au af
 have jP := Own.lt ae
 have hF : az no w w := Fr.refl _ _ _
 refine bH (fun g w' => ∃ (v3 : Value), (g 3 = v3) ∧ (Own w.heap.size w' 5 1 v3 (vals .u8 (Gs.lC cs (Gs.eU cs)))) ∧ (az no w w')) (fun J1 hJ1 => ?_) (fun gJ1 jX hI => ?_)
 refine aG (eY af ae rfl) (fun w1 U1 => ?_)
 refine dW (fun g w' => ∃ (k : Nat) (v3 : Value), (g 8 = Z.i (k : Int)) ∧ (k ≤ cs.length) ∧ (g 3 = v3) ∧ (Own w.heap.size w' 5 1 v3 (vals .u8 (Gs.lC cs ((Gs.eU cs).take k)))) ∧ (Z.h w' bp #[Z.i r, Z.i c, .slice A cs.length cp, Z.i cur] 91) ∧ (Own B0 w' 37 5 (.slice A cs.length cp) (rows Gs.cv cs)) ∧ (az no w w')) (fun g w' => cs.length - (RowKit.intOf (g 8)).toNat) ?_ (fun g2 qj hI => ?_)
 replace ae := ae.ai U1
 replace af := U1.ag af
 replace hF := hF.go0 U1
 exact ⟨0, _, (by rfl), Nat.zero_le _, rfl, (Own.nil _ _ _ _), af, ae, hF⟩
 replace ae := ae.ai U1
 replace af := U1.ag af
 replace hF := hF.go0 U1
 obtain ⟨k, v3, g8, hk, g3, aW, af, ae, hF⟩ := hI
 rw [g8]
 rw [g3]
 have hfl := Gs.zk cs ((Gs.eU cs).take k)
 rw [List.length_take, Gs.rV] at hfl
 refine ay (lss _ _ _ _) (fun h2 => ?_) (fun h2 => ?_)
 refine aH ?_
 refine bH (fun g w' => ∃ (v3 : Value), (g 3 = v3) ∧ (Own w.heap.size w' 5 1 v3 (vals .u8 (Gs.lC cs ((Gs.eU cs).take (k + 1))))) ∧ (Z.h w' bp #[Z.i r, Z.i c, .slice A cs.length cp, Z.i cur] 91) ∧ (Own B0 w' 37 5 (.slice A cs.length cp) (rows Gs.cv cs)) ∧ (az no w w')) (fun J3 hJ3 => ?_) (fun gJ3 Ha hI => ?_)
 refine aG (iI af ae rfl (i := (k : Int))) (fun w3 U3 => ?_)
 refine Z.n ((Gs.cv Gs.zc).toArray) (fun b4 w4 e4 dh _ U4 => ?_)
 replace aW := aW.ai U3
 have GG := aW.apart e4
 replace af := U3.ag af
 have mX : bp ≠ b4 := by have := au af; omega
 replace ae := ae.ai U3
 have kF := ae.apart e4
 replace hF := hF.go0 U3
 have lV : w.heap.size ≤ b4 := by have := hF.size; omega
 refine Z.t 5 ((Gs.cv (Gs.bJ cs k)).toArray) (by (simp [Value.cells, Value.oneCell', Gs.cv, Gs.fv, Gs.ie]; done)) dh (fun w5 dh _ U5 => ?_)
 refine Z.b 5 ((Gs.cv (Gs.bJ cs k)).toArray) dh ?_
 refine dS (Nz) (fun w6 U6 h6 => ?_) (fun w6 U6 h6 => ?_)
 refine aj (lX) ?_
 refine aB ?_
 refine hJ3 _ _ ?_
 replace aW := ((aW.ai U4).aA U5 GG).ai U6
 replace ae := ((ae.ai U4).aA U5 kF).ai U6
 replace af := U6.ag (U5.ak (U4.ag af) mX)
 replace hF := ((hF.go0 U4).go1 U5 lV).go0 U6
 exact ⟨_, (by exact g3), (by (rw [← Gs.ahN (by omega) (by assumption)]; exact aW)), af, ae, hF⟩
 refine aj (mV) ?_
 refine aH ?_
 replace dh := U6.ag dh
 refine Z.b 5 ((Gs.cv (Gs.bJ cs k)).toArray) dh ?_
 refine aJ (NC) (fun v7 w7 D7 => ?_)
 obtain ⟨Bi, U7⟩ := D7
 obtain ⟨A19, c19, rfl, _⟩ := Bi.bC
 replace aW := ((aW.ai U4).aA U5 GG).ai U6
 have O1 : ∀ k, aC _ k → ¬ aC _ k := fun k hk hs => by have := (Own.ge aW hk).2; have := (Own.ge Bi hs).1; omega
 replace af := U6.ag (U5.ak (U4.ag af) mX)
 have aiE : ¬ aC _ bp := fun h => by have := (Own.ge Bi h).1; have := au af; omega
 replace ae := ((ae.ai U4).aA U5 kF).ai U6
 have agR : ∀ k, aC _ k → ¬ aC _ k := fun k hk hs => by have := (Own.ge ae hk).2; have := (Own.ge Bi hs).1; omega
 have aiF : ¬ aC _ b4 := fun h => by have := (Own.ge Bi h).1; have := au dh; omega
 replace hF := ((hF.go0 U4).go1 U5 lV).go0 U6
 replace Bi := Bi.mono (B' := w.heap.size) hF.size
 have hbl := Gs.IB (Gs.bJ cs k)
 replace aW := aW.ai U7
 replace hF := hF.go0 U7
 refine ji (e := 5) (size := 1) (bytes := 1) (by kernel_rfl) aW Bi.xC (by (simp [vals_length]; done)) vz (by simp only [vals_length, List.length_take, List.length_cons, List.length_nil, List.length_append, List.length_map, List.length_range]; omega) (by have := hF.size; omega) (fun v8 w8 N8 hA8 U8 => ?_)
 have fK := aW
 have an4 := wQ (S' := w7) (fun k hk hs => O1 k hs hk) Bi hA8
 replace dh := U7.ag dh
 have nc8_b4 : ∀ k, aC v8 k → k ≠ b4 := fun k hk e => Or.elim (hA8 k hk) (fun h => GG k h e) (fun h => by have := au dh; omega)
 replace aW := N8
 replace af := U7.ag af
 replace af := U8.get af (fun h => by (have := Own.ge fK h; omega))
 replace ae := ae.ai U7
 replace ae := ae.eH U8 (fun k hk hs => by have := jP k hk; have := (Own.ge fK hs).1; omega)
 replace hF := hF.go U8 (fun i h hs => by (have := (Own.ge fK hs).1; omega))
 clear fK
 refine hJ3 _ _ ?_
 exact ⟨_, (by rfl), (by (rw [← Gs.ahO (by omega) (by assumption), ← zL]; exact aW)), af, ae, hF⟩
 obtain ⟨v3, g3, aW, af, ae, hF⟩ := hI
 refine aj (dF _ (by omega)) ?_
 exact ⟨⟨k + 1, _, (by rfl), by omega, (by exact g3), aW, af, ae, hF⟩, cnt_lt (by rfl) rfl (by omega)⟩
 refine aB ?_
 refine hJ1 _ _ ?_
 exact ⟨_, (by exact g3), (by rw [List.take_of_length_le (by rw [Gs.rV]; omega)] at aW; exact aW), hF⟩
 obtain ⟨v3, g3, aW, hF⟩ := hI
 rw [g3]
 exact ⟨_, rfl, aW, hF⟩
set_option maxHeartbeats 2000000 in
theorem Wp {r c cur : Int} {A : Option Addr} {n cp bp B0 : Nat} {cs : List Gs.Cell} {w : World} (af : Z.h w bp #[Z.i r, Z.i c, .slice A n cp, Z.i cur] 91) (ae : Own B0 w 37 5 (.slice A n cp) (rows Gs.cv cs)) (hn : n = cs.length) (hN : Gs.aU r c = n) (hb : n ≤ 4096) (hcw : Gs.jq cs)  :
    oX 98 #[Z.p bp] w fun e w' => ∃ v, e = .returned v ∧ Own w.heap.size w' 5 1 v (vals .u8 (Gs.wH cs (Gs.bQ cs).length)) ∧ az no w w' := by
 refine F98.calls ?_
 unfold F98
 subst hn
 have uA := au af
 have jP := Own.lt ae
 have hF : az no w w := Fr.refl _ _ _
 refine Z.x _ (fun b1 w1 e1 ah _ U1 => ?_)
 have jW : bp ≠ b1 := by have := au af; omega
 have gV := ae.apart e1
 have bU : w.heap.size ≤ b1 := by have := hF.size; omega
 refine Z.n (#[.slice none 0 0]) (fun b2 w2 e2 ax _ U2 => ?_)
 replace af := U1.ag af
 have fH : bp ≠ b2 := by have := au af; omega
 replace ae := ae.ai U1
 have dN := ae.apart e2
 have lJ : b1 ≠ b2 := by have := au ah; omega
 replace hF := hF.go0 U1
 have fF : w.heap.size ≤ b2 := by have := hF.size; omega
 refine bH (fun g w' => ∃ (D2 : Nat) (v3 : Value), (g 1000000 = mkV D2 undef) ∧ (w.heap.size ≤ D2) ∧ (w'.heap[D2]? = some (.deferred (some []))) ∧ (Z.h w' b2 #[v3] 24) ∧ (Own w.heap.size w' 5 1 v3 (vals .u8 (Gs.wH cs (Gs.bQ cs).length))) ∧ (az no w w')) (fun J1 hJ1 => ?_) (fun gJ1 jX hI => ?_)
 replace ah := U2.ag ah
 refine Z.l ah ?_
 replace ae := ae.ai U2
 replace af := U2.ag af
 refine aJ (wO af ae rfl) (fun v3 w3 D3 => ?_)
 obtain ⟨b1_8, rfl, g1_8, di, U3⟩ := D3
 have amB : bp ≠ b1_8 := by have := au af; omega
 have aiR : ∀ k, aC _ k → k ≠ b1_8 := fun k hk => by have := (Own.ge ae hk).2; omega
 have amC : b1 ≠ b1_8 := by have := au ah; omega
 have NE : b2 ≠ b1_8 := by have := au ax; omega
 replace hF := hF.go0 U2
 have ge_b1_8 : w.heap.size ≤ b1_8 := by have := hF.size; omega
 refine tZ (by kernel_rfl) (fun w4 l2 D2 Rdy2 Bsy2 Dn2 y2 eD el aZ bg lp1 lp2 lp3 sz4 U4 hY => ?_)
 have lp2_2 := lp2
 replace af := U3.ag af
 have SH : bp ≠ D2 := by have := au af; omega
 have iE : bp ≠ l2 := by have := au af; omega
 replace ae := ae.ai U3
 have rU : ∀ k, aC _ k → k ≠ D2 := fun k hk => by have := (Own.ge ae hk).2; omega
 have fD : ∀ k, aC _ k → k ≠ l2 := fun k hk => by have := (Own.ge ae hk).2; omega
 replace ah := U3.ag ah
 have SI : b1 ≠ D2 := by have := au ah; omega
 have iJ : b1 ≠ l2 := by have := au ah; omega
 replace ax := U3.ag ax
 have uf : b2 ≠ D2 := by have := au ax; omega
 have gW : b2 ≠ l2 := by have := au ax; omega
 have amD : b1_8 ≠ D2 := by have := au di; omega
 have Bj : b1_8 ≠ l2 := by have := au di; omega
 replace hF := hF.go0 U3
 have nG : w.heap.size ≤ D2 := by have := hF.size; omega
 have jK : w.heap.size ≤ l2 := by have := hF.size; omega
 have fQ : D2 ≠ l2 := by omega
 replace ae := ae.ai U4
 replace af := U4.ag af
 replace ah := U4.ag ah
 replace ax := U4.ag ax
 replace di := U4.ag di
 replace hF := hF.go0 U4
 refine Calls.mono (uq (b1 := b1_8) (csF := (fun _ => cs)) (J := (fun (k : Nat) (w' : World) => ∃ (v3 : Value), (Z.h w' b2 #[v3] 24) ∧ (Own w.heap.size w' 5 1 v3 (vals .u8 (Gs.wH cs k))) ∧ (Z.h w' b1 #[Z.p bp] 33) ∧ (Z.h w' bp #[Z.i r, Z.i c, .slice A cs.length cp, Z.i cur] 91) ∧ (Own B0 w' 37 5 (.slice A cs.length cp) (rows Gs.cv cs)) ∧ (Z.h w' b1_8 #[Z.p bp] 33) ∧ (w'.heap[D2]? = some (.deferred (some []))) ∧ (w'.heap[l2]? = some Rdy2) ∧ (az no w w'))) (X := (fun _ => False)) (fun _ w' hJ => by obtain ⟨v3, ax, aW, ah, af, ae, di, aZ, bg, hF⟩ := hJ; exact ⟨di, af, ae⟩) (fun _ w' w'' hJ U' => by obtain ⟨v3, ax, aW, ah, af, ae, di, aZ, bg, hF⟩ := hJ; exact ⟨v3, U'.ag ax, aW.ai U', U'.ag ah, U'.ag af, ae.ai U', U'.ag di, U'.ag aZ, U'.ag bg, hF.go0 U'⟩) (fun _ _ h _ => h.elim) (fun _ => rfl) (fun _ => hcw) (fun _ _ => rfl) hN hb ?_ ?_) ?_
 intro k qj xk hx hI
 obtain ⟨v3, ax, aW, ah, af, ae, di, aZ, bg, hF⟩ := hI
 have hk := (List.getElem?_eq_some_iff.1 hx).1
 have hsl := Gs.pR cs
 have hol := Gs.TR hb k
 have hxm1 := Gs.rf.1 (List.mem_of_getElem? hx)
 have hpl := Gs.xJ cs.length (Gs.je cs xk)
 refine hY [.agg (Gs.fv (Gs.je cs xk)).toArray] _ _ rfl bg ?_
 simp only [List.getD_cons_zero, List.getD_cons_succ]
 refine Z.n ((Gs.fv Gs.zf).toArray) (fun b5 w5 e5 bV _ U5 => ?_)
 have mY : b2 ≠ b5 := by have := au ax; omega
 have Bl := aW.apart e5
 have ik : b1 ≠ b5 := by have := au ah; omega
 have lq : bp ≠ b5 := by have := au af; omega
 have kD := ae.apart e5
 have aaU : b1_8 ≠ b5 := by have := au di; omega
 have BZ : D2 ≠ b5 := by have := au aZ; omega
 have Cb : l2 ≠ b5 := by have := au bg; omega
 have iF : w.heap.size ≤ b5 := by have := hF.size; omega
 refine Z.t 3 ((Gs.fv (Gs.je cs xk)).toArray) (by (simp [Value.cells, Value.oneCell', Gs.cv, Gs.fv, Gs.ie]; done)) bV (fun w6 bV _ U6 => ?_)
 replace bg := U6.ak (U5.ag bg) Cb
 refine wM bg (fun w7 bg _ U7 => ?_)
 replace aW := (aW.ai U5).aA U6 Bl
 replace ae := (ae.ai U5).aA U6 kD
 replace ax := U6.ak (U5.ag ax) mY
 replace ah := U6.ak (U5.ag ah) ik
 replace af := U6.ak (U5.ag af) lq
 replace di := U6.ak (U5.ag di) aaU
 replace aZ := U6.ak (U5.ag aZ) BZ
 replace hF := (hF.go0 U5).go1 U6 iF
 replace aW := aW.aA U7 (Own.iY aW (by assumption) (by assumption))
 refine Z.f 2 ?_
 replace bV := U7.ak bV (Ne.symm Cb)
 refine Z.l bV ?_
 refine dS (Dv (Gs.SN hcw xk)) (fun w8 U8 h8 => ?_) (fun w8 U8 h8 => ?_)
 simp only [Z.d, Z.c] at h8
 refine aj (lX) ?_
 refine aB ?_
 replace ax := U8.ag (U7.ak ax gW)
 have gB_h_b2 := au ax
 replace aW := aW.ai U8
 have gB_own3 := Own.lt aW
 replace ah := U8.ag (U7.ak ah iJ)
 have gB_h_b1 := au ah
 replace af := U8.ag (U7.ak af iE)
 have gB_h_bp := au af
 replace ae := (ae.aA U7 fD).ai U8
 have gB_own_p := Own.lt ae
 replace di := U8.ag (U7.ak di Bj)
 have gB_h_b1_8 := au di
 replace aZ := U8.ag (U7.ak aZ fQ)
 have gB_h_D2 := au aZ
 replace bg := U8.ag bg
 have gB_h_l2 := au bg
 replace bV := U8.ag bV
 have gB_h_b5 := au bV
 have oG_own3 := aW
 have gN_h_b2 : ¬ aC (v3) b2 := (fun h => Own.aP aW ax (by decide) _ h rfl)
 have gN_h_b1 : ¬ aC (v3) b1 := (fun h => Own.aP aW ah (by decide) _ h rfl)
 have gN_h_bp : ¬ aC (v3) bp := (fun h => Own.aP aW af (by decide) _ h rfl)
 have gN_h_b1_8 : ¬ aC (v3) b1_8 := (fun h => Own.aP aW di (by decide) _ h rfl)
 have gN_h_D2 : ¬ aC (v3) D2 := (fun h => Own.lh aW aZ _ h rfl)
 replace hF := (hF.go1 U7 jK).go0 U8
 have gN_h_l2 : ¬ aC (v3) l2 := (fun h => Own.iY aW bg (by assumption) _ h rfl)
 have gN_h_b5 : ¬ aC (v3) b5 := (fun h => Bl _ h rfl)
 refine dQ (S := fun k => aC (v3) k ∨ w8.heap.size ≤ k) (fun w9 U9 => ?_)
 have zz9 := U9.size
 replace ax := U9.ag ax
 refine bi (fun w' hw' => by have ax := hw'.get ax (fun hs => Or.elim (show aC _ _ ∨ _ ≤ _ from hs) gN_h_b2 (fun h => by have := gB_h_b2; omega)); exact (kK (by kernel_rfl) ax (by rfl))) ?_
 replace ah := U9.ag ah
 refine bi (fun w' hw' => by have ah := hw'.get ah (fun hs => Or.elim (show aC _ _ ∨ _ ≤ _ from hs) gN_h_b1 (fun h => by have := gB_h_b1; omega)); exact (kK (by kernel_rfl) ah (by rfl))) ?_
 refine bi (fun w' hw' => by have ah := hw'.get ah (fun hs => Or.elim (show aC _ _ ∨ _ ≤ _ from hs) gN_h_b1 (fun h => by have := gB_h_b1; omega)); exact (kK (by kernel_rfl) ah (by rfl))) ?_
 refine Z.g 0 ?_
 replace bV := U9.ag bV
 refine bi (fun w' hw' => by have bV := hw'.get bV (fun hs => Or.elim (show aC _ _ ∨ _ ≤ _ from hs) gN_h_b5 (fun h => by have := gB_h_b5; omega)); exact (kK (by kernel_rfl) bV (by rfl))) ?_
 refine aF (fun w10 aT => ?_)
 have zz10 := aT.size
 refine jC ?_
 refine dD (e := 5) (m := 1) (z := #[Z.u 0]) (by kernel_rfl) (by kernel_rfl) (by rfl) (by decide) (by (simp [eP, splice, gq, Value.cells, Gs.cv, Gs.fv, Gs.ie]; rfl)) (fun b11 oz e11 jV _ bK => ?_)
 replace ax := aT.ag ax
 have ac7 : b2 ≠ b11 := by have := au ax; omega
 replace aW := (aW.ai U9).ai aT
 have JU := aW.apart e11
 replace ah := aT.ag ah
 have H8 : b1 ≠ b11 := by have := au ah; omega
 replace af := aT.ag (U9.ag af)
 have an5 : bp ≠ b11 := by have := au af; omega
 replace ae := (ae.ai U9).ai aT
 have akS := ae.apart e11
 replace di := aT.ag (U9.ag di)
 have alT : b1_8 ≠ b11 := by have := au di; omega
 replace aZ := aT.ag (U9.ag aZ)
 have an6 : D2 ≠ b11 := by have := au aZ; omega
 replace bg := aT.ag (U9.ag bg)
 have an7 : l2 ≠ b11 := by have := au bg; omega
 replace bV := aT.ag bV
 have an8 : b5 ≠ b11 := by have := au bV; omega
 replace hF := (hF.go0 U9).go0 aT
 have Rz : w.heap.size ≤ b11 := by have := hF.size; omega
 have zz11 := bK.size
 refine ⟨bK.any, ?_⟩
 refine aF (fun w12 cZ => ?_)
 have zz12 := cZ.size
 refine jC ?_
 replace aW := (aW.ai bK).ai cZ
 replace hF := (hF.go0 bK).go0 cZ
 replace jV := cZ.ag jV
 refine ji (e := 5) (size := 1) (bytes := 1) (by kernel_rfl) aW (Rd.lI jV) rfl (by (simp [Value.oneCell']; done)) (by simp only [vals_length, List.length_take, List.length_cons, List.length_nil, List.length_append, List.length_map, List.length_range]; omega) (by have := hF.size; omega) (fun v13 uM N13 hA13 dI => ?_)
 have fK := aW
 replace bV := cZ.ag (bK.ag bV)
 have XI : ∀ k, aC v13 k → k ≠ b5 := fun k hk e => Or.elim (hA13 k hk) (fun h => Bl k h e) (fun h => by have := au bV; omega)
 have UE : ∀ k, aC v13 k → k ≠ b11 := fun k hk e => Or.elim (hA13 k hk) (fun h => JU k h e) (fun h => by have := au jV; omega)
 replace ax := cZ.ag (bK.ag ax)
 replace ax := dI.get ax (fun h => Own.aP fK ax (by decide) _ h rfl)
 replace aW := N13
 replace ah := cZ.ag (bK.ag ah)
 replace ah := dI.get ah (fun h => Own.aP fK ah (by decide) _ h rfl)
 replace af := cZ.ag (bK.ag af)
 replace af := dI.get af (fun h => by (have := Own.ge fK h; omega))
 replace ae := (ae.ai bK).ai cZ
 replace ae := ae.eH dI (fun k hk hs => by have := jP k hk; have := (Own.ge fK hs).1; omega)
 replace di := cZ.ag (bK.ag di)
 replace di := dI.get di (fun h => Own.aP fK di (by decide) _ h rfl)
 replace aZ := cZ.ag (bK.ag aZ)
 replace aZ := dI.get aZ (fun h => Own.lh fK aZ _ h rfl)
 replace bg := cZ.ag (bK.ag bg)
 replace bg := dI.get bg (fun h => Own.iY fK bg (by assumption) _ h rfl)
 replace bV := dI.get bV (fun h => Bl _ h rfl)
 replace jV := dI.get jV (fun h => JU _ h rfl)
 replace hF := hF.go dI (fun i h hs => by (have := (Own.ge fK hs).1; omega))
 have zz13 := dI.size
 clear fK
 refine ⟨dI.mono (Nat.le_refl _) (fun i _ h => .inl h), ?_⟩
 refine fU (fun w' hw' => by have af := hw'.get af (fun hs => Or.elim (show aC _ _ ∨ _ ≤ _ from hs) gN_h_bp (fun h => by have := gB_h_bp; omega)); have ae := ae.eH hw' (fun k hk hs => Or.elim (show aC _ _ ∨ _ ≤ _ from hs) (fun h => by have := jP k hk; have := (Own.ge oG_own3 h).1; omega) (fun h => by have := gB_own_p k hk; omega)); exact ku af ae rfl) ?_
 refine fU (fun w' hw' => mO (i := (xk : Int)) (j := 1)) ?_
 rw [hN, Gs.rQ (by omega)]
 refine aF (fun w16 bZ => ?_)
 have zz16 := bZ.size
 replace ae := ae.ai bZ
 replace af := bZ.ag af
 refine aJ (ND af ae rfl (i := ((xk : Int) + 1) % (cs.length : Int))) (fun v17 uo D17 => ?_)
 obtain ⟨A23, c23, rfl, sW, gA23, bY⟩ := D17
 replace ax := bZ.ag ax
 have aaV := gA23.ne (au ax)
 replace aW := aW.ai bZ
 have IY : _ ∨ ∀ k, _ → ¬ aC _ k := gA23.imp_right fun h k hk hs => by have := h k hk; have := (Own.ge aW hs).2; omega
 replace ah := bZ.ag ah
 have amE := gA23.ne (au ah)
 have amF := gA23.ne (au af)
 have aiS : _ ∨ ∀ k, _ → ¬ aC _ k := gA23.imp_right fun h k hk hs => by have := h k hk; have := (Own.ge ae hs).2; omega
 replace di := bZ.ag di
 have akT := gA23.ne (au di)
 replace aZ := bZ.ag aZ
 have amG := gA23.ne (au aZ)
 replace bg := bZ.ag bg
 have amH := gA23.ne (au bg)
 replace bV := bZ.ag bV
 have amI := gA23.ne (au bV)
 replace jV := bZ.ag jV
 have alU := gA23.ne (au jV)
 have zz17 := bY.size
 refine aF (fun uY dE => ?_)
 have zz18 := dE.size
 replace hF := ((hF.go0 bZ).go0 bY).go0 dE
 replace aW := (aW.ai bY).ai dE
 replace sW := sW.ai dE
 refine ji (e := 5) (size := 1) (bytes := 1) (by kernel_rfl) aW sW (by (simp [vals_length]; done)) vz (by simp only [vals_length, List.length_take, List.length_cons, List.length_nil, List.length_append, List.length_map, List.length_range]; omega) (by have := hF.size; omega) (fun v19 yK N19 hA19 eu => ?_)
 have fK := aW
 have an9 := agH (S' := uY) IY sW hA19
 replace bV := dE.ag (bY.ag bV)
 have nc19_b5 : ∀ k, aC v19 k → k ≠ b5 := fun k hk e => Or.elim (hA19 k hk) (fun h => XI k h e) (fun h => by have := au bV; omega)
 replace jV := dE.ag (bY.ag jV)
 have aoW : ∀ k, aC v19 k → k ≠ b11 := fun k hk e => Or.elim (hA19 k hk) (fun h => UE k h e) (fun h => by have := au jV; omega)
 replace ax := dE.ag (bY.ag ax)
 replace ax := eu.get ax (fun h => Own.aP fK ax (by decide) _ h rfl)
 replace aW := N19
 replace ah := dE.ag (bY.ag ah)
 replace ah := eu.get ah (fun h => Own.aP fK ah (by decide) _ h rfl)
 replace af := dE.ag (bY.ag af)
 replace af := eu.get af (fun h => by (have := Own.ge fK h; omega))
 replace ae := (ae.ai bY).ai dE
 replace ae := ae.eH eu (fun k hk hs => by have := jP k hk; have := (Own.ge fK hs).1; omega)
 replace di := dE.ag (bY.ag di)
 replace di := eu.get di (fun h => Own.aP fK di (by decide) _ h rfl)
 replace aZ := dE.ag (bY.ag aZ)
 replace aZ := eu.get aZ (fun h => Own.lh fK aZ _ h rfl)
 replace bg := dE.ag (bY.ag bg)
 replace bg := eu.get bg (fun h => Own.iY fK bg (by assumption) _ h rfl)
 replace bV := eu.get bV (fun h => XI _ h rfl)
 replace jV := eu.get jV (fun h => UE _ h rfl)
 replace sW := sW.eH eu IY
 replace hF := hF.go eu (fun i h hs => by (have := (Own.ge fK hs).1; omega))
 have zz19 := eu.size
 clear fK
 refine aF (fun wE dJ => ?_)
 have zz20 := dJ.size
 replace aW := aW.ai dJ
 replace ax := dJ.ag ax
 refine mM (by kernel_rfl) (Own.DX aW).1 (Own.DX aW).2 ax (Nat.le_of_ble_eq_true rfl) (by (simp [tY]; rfl)) (fun BD ax _ dL => ?_)
 replace ae := ae.ai dJ
 replace sW := sW.ai dJ
 replace ah := dJ.ag ah
 replace af := dJ.ag af
 replace di := dJ.ag di
 replace aZ := dJ.ag aZ
 replace bg := dJ.ag bg
 replace bV := dJ.ag bV
 replace jV := dJ.ag jV
 replace hF := hF.go0 dJ
 replace aW := aW.aA dL (Own.aP aW (by assumption) (by decide))
 have zz21 := dL.size
 refine aF (fun ED fB => ?_)
 have zz22 := fB.size
 replace ah := fB.ag (dL.ak ah lJ)
 refine Z.l ah ?_
 replace bV := fB.ag (dL.ak bV (Ne.symm mY))
 refine Z.b 3 ((Gs.fv (Gs.je cs xk)).toArray) bV ?_
 replace ae := (ae.aA dL dN).ai fB
 replace af := fB.ag (dL.ak af fH)
 refine aJ (yV af ae rfl (f := (Gs.je cs xk))) (fun v23 AB D23 => ?_)
 obtain ⟨b1_27, b2_27, rfl, g1_27, g2_27, iQ, iR, eF⟩ := D23
 replace ax := fB.ag ax
 have Wq : b2 ≠ b1_27 := by have := au ax; omega
 replace aW := aW.ai fB
 have aiT : ∀ k, aC _ k → k ≠ b1_27 := fun k hk => by have := (Own.ge aW hk).2; omega
 have alV : b1 ≠ b1_27 := by have := au ah; omega
 have alW : bp ≠ b1_27 := by have := au af; omega
 have aiG : ∀ k, aC _ k → k ≠ b1_27 := fun k hk => by have := (Own.ge ae hk).2; omega
 replace di := fB.ag (dL.ak di (Ne.symm NE))
 have aiU : b1_8 ≠ b1_27 := by have := au di; omega
 replace aZ := fB.ag (dL.ak aZ (Ne.symm uf))
 have alX : D2 ≠ b1_27 := by have := au aZ; omega
 replace bg := fB.ag (dL.ak bg (Ne.symm gW))
 have alY : l2 ≠ b1_27 := by have := au bg; omega
 have alZ : b5 ≠ b1_27 := by have := au bV; omega
 replace jV := fB.ag (dL.ak jV (Ne.symm ac7))
 have akU : b11 ≠ b1_27 := by have := au jV; omega
 replace sW := (sW.aA dL aaV).ai fB
 have aiV := (sW.lt).ne (b := b1_27) (by omega)
 replace hF := (hF.go1 dL fF).go0 fB
 have aoX : w.heap.size ≤ b1_27 := by have := hF.size; omega
 have Ws : b2 ≠ b2_27 := by have := au ax; omega
 have aiW : ∀ k, aC _ k → k ≠ b2_27 := fun k hk => by have := (Own.ge aW hk).2; omega
 have al0 : b1 ≠ b2_27 := by have := au ah; omega
 have al1 : bp ≠ b2_27 := by have := au af; omega
 have aiH : ∀ k, aC _ k → k ≠ b2_27 := fun k hk => by have := (Own.ge ae hk).2; omega
 have aiX : b1_8 ≠ b2_27 := by have := au di; omega
 have al2 : D2 ≠ b2_27 := by have := au aZ; omega
 have al3 : l2 ≠ b2_27 := by have := au bg; omega
 have al4 : b5 ≠ b2_27 := by have := au bV; omega
 have akV : b11 ≠ b2_27 := by have := au jV; omega
 have aiY := (sW.lt).ne (b := b2_27) (by omega)
 have aoY : w.heap.size ≤ b2_27 := by have := hF.size; omega
 have zz23 := eF.size
 replace bg := eF.ag bg
 refine ae2 (by kernel_rfl) bg lp2_2 (fun Po l3 Rdy3 Bsy3 Dn3 y3 el mF lp1_3 lp2_3 lp3_3 sz24 jm hY => ?_)
 replace ax := eF.ag ax
 have CY : b2 ≠ l3 := by have := au ax; omega
 replace aW := aW.ai eF
 have amJ : ∀ k, aC _ k → k ≠ l3 := fun k hk => by have := (Own.ge aW hk).2; omega
 replace ah := eF.ag ah
 have GH : b1 ≠ l3 := by have := au ah; omega
 replace af := eF.ag af
 have GI : bp ≠ l3 := by have := au af; omega
 replace ae := ae.ai eF
 have zN : ∀ k, aC _ k → k ≠ l3 := fun k hk => by have := (Own.ge ae hk).2; omega
 replace di := eF.ag di
 have Bo : b1_8 ≠ l3 := by have := au di; omega
 replace aZ := eF.ag aZ
 have GK : D2 ≠ l3 := by have := au aZ; omega
 have GL : l2 ≠ l3 := by have := au bg; omega
 replace bV := eF.ag bV
 have aoZ : b5 ≠ l3 := by have := au bV; omega
 replace jV := eF.ag jV
 have aoa : b11 ≠ l3 := by have := au jV; omega
 replace sW := sW.ai eF
 have amK := (sW.lt).ne (b := l3) (by omega)
 have Eo : b1_27 ≠ l3 := by have := au iQ; omega
 have Ep : b2_27 ≠ l3 := by have := au iR; omega
 replace hF := hF.go0 eF
 have Q4 : w.heap.size ≤ l3 := by have := hF.size; omega
 have zz24 := jm.size
 replace aW := aW.ai jm
 replace ae := ae.ai jm
 replace ax := jm.ag ax
 replace ah := jm.ag ah
 replace af := jm.ag af
 replace di := jm.ag di
 replace aZ := jm.ag aZ
 replace bg := jm.ag bg
 replace iQ := jm.ag iQ
 replace iR := jm.ag iR
 replace hF := hF.go0 jm
 refine Calls.mono (BP (b1 := b1_27) (b2 := b2_27) (f := (Gs.je cs xk)) (J := (fun (m : Nat) (w' : World) => ∃ (v3 : Value), (Z.h w' b2 #[v3] 24) ∧ (Own w.heap.size w' 5 1 v3 (vals .u8 (Gs.wH cs k ++ Gs.Be cs (Gs.je cs xk) ++ Gs.lC cs ((Gs.dZ cs.length (Gs.je cs xk)).take m)))) ∧ (Z.h w' b1 #[Z.p bp] 33) ∧ (Z.h w' bp #[Z.i r, Z.i c, .slice A cs.length cp, Z.i cur] 91) ∧ (Own B0 w' 37 5 (.slice A cs.length cp) (rows Gs.cv cs)) ∧ (Z.h w' b1_8 #[Z.p bp] 33) ∧ (Z.h w' b1_27 #[Z.p bp] 33) ∧ (Z.h w' b2_27 ((Gs.fv (Gs.je cs xk)).toArray) 173) ∧ (w'.heap[l3]? = some Rdy3) ∧ (w'.heap[l2]? = some Bsy2) ∧ (w'.heap[D2]? = some (.deferred (some []))) ∧ (az no w w'))) (X := (fun _ => False)) (fun _ w' hJ => by obtain ⟨v3, ax, aW, ah, af, ae, di, iQ, iR, mF, bg, aZ, hF⟩ := hJ; exact ⟨iQ, iR, af, ae⟩) (fun _ w' w'' hJ U' => by obtain ⟨v3, ax, aW, ah, af, ae, di, iQ, iR, mF, bg, aZ, hF⟩ := hJ; exact ⟨v3, U'.ag ax, aW.ai U', U'.ag ah, U'.ag af, ae.ai U', U'.ag di, U'.ag iQ, U'.ag iR, U'.ag mF, U'.ag bg, U'.ag aZ, hF.go0 U'⟩) (fun _ _ h _ => h.elim) (fun _ h => h.elim) rfl hN hb ?_ ?_) ?_
 intro m wl3 xm hxm hI
 obtain ⟨v3, ax, aW, ah, af, ae, di, iQ, iR, mF, bg, aZ, hF⟩ := hI
 have hkm := (List.getElem?_eq_some_iff.1 hxm).1
 have hfl := Gs.zk cs ((Gs.dZ cs.length (Gs.je cs xk)).take m)
 rw [List.length_take] at hfl
 have hhl : (Gs.Be cs (Gs.je cs xk)).length = 3 := by rw [Gs.OE]; rfl
 refine hY [Z.i xm] _ _ rfl mF ?_
 simp only [List.getD_cons_zero, List.getD_cons_succ]
 refine wM mF (fun Hy mF _ iD => ?_)
 replace aW := aW.aA iD (Own.iY aW (by assumption) (by assumption))
 have zz25 := iD.size
 replace ah := iD.ak ah GH
 refine Z.l ah ?_
 replace ae := ae.aA iD zN
 replace af := iD.ak af GI
 refine aG (iI af ae rfl (i := xm)) (fun Pq jM => ?_)
 have zz26 := jM.size
 refine Z.n ((Gs.cv Gs.zc).toArray) (fun b27 Ic e27 uV _ ig => ?_)
 replace ax := jM.ag (iD.ak ax CY)
 have Qd : b2 ≠ b27 := by have := au ax; omega
 replace aW := aW.ai jM
 have Es := aW.apart e27
 replace ah := jM.ag ah
 have Qe : b1 ≠ b27 := by have := au ah; omega
 replace af := jM.ag af
 have Qg : bp ≠ b27 := by have := au af; omega
 replace ae := ae.ai jM
 have IZ := ae.apart e27
 replace di := jM.ag (iD.ak di Bo)
 have JV : b1_8 ≠ b27 := by have := au di; omega
 replace iQ := jM.ag (iD.ak iQ Eo)
 have I4 : b1_27 ≠ b27 := by have := au iQ; omega
 replace iR := jM.ag (iD.ak iR Ep)
 have I5 : b2_27 ≠ b27 := by have := au iR; omega
 replace mF := jM.ag mF
 have Qh : l3 ≠ b27 := by have := au mF; omega
 replace bg := jM.ag (iD.ak bg GL)
 have Qi : l2 ≠ b27 := by have := au bg; omega
 replace aZ := jM.ag (iD.ak aZ GK)
 have Qj : D2 ≠ b27 := by have := au aZ; omega
 replace hF := (hF.go1 iD Q4).go0 jM
 have ac8 : w.heap.size ≤ b27 := by have := hF.size; omega
 have zz27 := ig.size
 refine Z.t 5 ((Gs.cv (Gs.bJ cs xm)).toArray) (by (simp [Value.cells, Value.oneCell', Gs.cv, Gs.fv, Gs.ie]; done)) uV (fun PD uV _ jJ => ?_)
 have zz28 := jJ.size
 refine Z.b 5 ((Gs.cv (Gs.bJ cs xm)).toArray) uV ?_
 refine dS (Nz) (fun Px jc h29 => ?_) (fun Px jc h29 => ?_)
 have zz29 := jc.size
 refine aj (lX) ?_
 refine aB ?_
 replace mF := jc.ag (jJ.ak (ig.ag mF) Qh)
 refine rP mF (fun w30 mF _ rX => ?_)
 replace aW := ((aW.ai ig).aA jJ Es).ai jc
 replace ae := ((ae.ai ig).aA jJ IZ).ai jc
 replace ax := jc.ag (jJ.ak (ig.ag ax) Qd)
 replace ah := jc.ag (jJ.ak (ig.ag ah) Qe)
 replace af := jc.ag (jJ.ak (ig.ag af) Qg)
 replace di := jc.ag (jJ.ak (ig.ag di) JV)
 replace iQ := jc.ag (jJ.ak (ig.ag iQ) I4)
 replace iR := jc.ag (jJ.ak (ig.ag iR) I5)
 replace bg := jc.ag (jJ.ak (ig.ag bg) Qi)
 replace aZ := jc.ag (jJ.ak (ig.ag aZ) Qj)
 replace hF := ((hF.go0 ig).go1 jJ ac8).go0 jc
 replace aW := aW.aA rX (Own.iY aW (by assumption) (by assumption))
 have zz30 := rX.size
 replace ae := ae.aA rX zN
 replace ax := rX.ak ax CY
 replace ah := rX.ak ah GH
 replace af := rX.ak af GI
 replace di := rX.ak di Bo
 replace iQ := rX.ak iQ Eo
 replace iR := rX.ak iR Ep
 replace bg := rX.ak bg GL
 replace aZ := rX.ak aZ GK
 replace hF := hF.go1 rX Q4
 exact ⟨_, ax, (by (rw [← Gs.acd hxm (by assumption)]; exact aW)), ah, af, ae, di, iQ, iR, mF, bg, aZ, hF⟩
 have zz29 := jc.size
 refine aj (mV) ?_
 refine aH ?_
 refine dQ (S := aC (v3)) (fun w31 o6 => ?_)
 replace aW := (((aW.ai ig).aA jJ Es).ai jc).ai o6
 replace ax := o6.ag (jc.ag (jJ.ak (ig.ag ax) Qd))
 refine bi (fun w' hw' => by have ax := hw'.get ax (fun h => Own.aP aW ax (by decide) _ h rfl); exact (kK (by kernel_rfl) ax (by rfl))) ?_
 replace uV := o6.ag (jc.ag uV)
 refine bi (fun w' hw' => by have uV := (Fr.jA hw').ag uV; exact (BH (n := 5) (cs' := (Gs.cv (Gs.bJ cs xm)).toArray) (by kernel_rfl) uV (Nat.le_of_ble_eq_true rfl) (by rfl))) ?_
 refine aF (fun w32 kw => ?_)
 refine jC ?_
 refine aJ (NC) (fun v33 w33 D33 => ?_)
 obtain ⟨qi, nX⟩ := D33
 obtain ⟨A37, c37, rfl, _⟩ := qi.bC
 replace ax := kw.ag ax
 have agS : ¬ aC _ b2 := fun h => by have := (Own.ge qi h).1; have := au ax; omega
 replace aW := aW.ai kw
 have NF : ∀ k, aC _ k → ¬ aC _ k := fun k hk hs => by have := (Own.ge aW hk).2; have := (Own.ge qi hs).1; omega
 replace ah := kw.ag (o6.ag (jc.ag (jJ.ak (ig.ag ah) Qe)))
 have agT : ¬ aC _ b1 := fun h => by have := (Own.ge qi h).1; have := au ah; omega
 replace af := kw.ag (o6.ag (jc.ag (jJ.ak (ig.ag af) Qg)))
 have agU : ¬ aC _ bp := fun h => by have := (Own.ge qi h).1; have := au af; omega
 replace ae := ((((ae.ai ig).aA jJ IZ).ai jc).ai o6).ai kw
 have ae3 : ∀ k, aC _ k → ¬ aC _ k := fun k hk hs => by have := (Own.ge ae hk).2; have := (Own.ge qi hs).1; omega
 replace di := kw.ag (o6.ag (jc.ag (jJ.ak (ig.ag di) JV)))
 have adw : ¬ aC _ b1_8 := fun h => by have := (Own.ge qi h).1; have := au di; omega
 replace iQ := kw.ag (o6.ag (jc.ag (jJ.ak (ig.ag iQ) I4)))
 have ac9 : ¬ aC _ b1_27 := fun h => by have := (Own.ge qi h).1; have := au iQ; omega
 replace iR := kw.ag (o6.ag (jc.ag (jJ.ak (ig.ag iR) I5)))
 have ada : ¬ aC _ b2_27 := fun h => by have := (Own.ge qi h).1; have := au iR; omega
 replace mF := kw.ag (o6.ag (jc.ag (jJ.ak (ig.ag mF) Qh)))
 have agV : ¬ aC _ l3 := fun h => by have := (Own.ge qi h).1; have := au mF; omega
 replace bg := kw.ag (o6.ag (jc.ag (jJ.ak (ig.ag bg) Qi)))
 have agW : ¬ aC _ l2 := fun h => by have := (Own.ge qi h).1; have := au bg; omega
 replace aZ := kw.ag (o6.ag (jc.ag (jJ.ak (ig.ag aZ) Qj)))
 have agX : ¬ aC _ D2 := fun h => by have := (Own.ge qi h).1; have := au aZ; omega
 replace uV := kw.ag uV
 have ae4 : ¬ aC _ b27 := fun h => by have := (Own.ge qi h).1; have := au uV; omega
 replace hF := ((((hF.go0 ig).go1 jJ ac8).go0 jc).go0 o6).go0 kw
 replace qi := qi.mono (B' := w.heap.size) hF.size
 have hbl := Gs.IB (Gs.bJ cs xm)
 refine ⟨nX.any, ?_⟩
 refine aF (fun Rl lN => ?_)
 replace aW := (aW.ai nX).ai lN
 replace hF := (hF.go0 nX).go0 lN
 replace qi := qi.ai lN
 refine ji (e := 5) (size := 1) (bytes := 1) (by kernel_rfl) aW qi.xC (by (simp [vals_length]; done)) vz (by simp only [vals_length, List.length_take, List.length_cons, List.length_nil, List.length_append, List.length_map, List.length_range]; omega) (by have := hF.size; omega) (fun v35 w35 N35 hA35 pF => ?_)
 have fK := aW
 have amL := wQ (S' := Rl) (fun k hk hs => NF k hs hk) qi hA35
 replace uV := lN.ag (nX.ag uV)
 have ao0 : ∀ k, aC v35 k → k ≠ b27 := fun k hk e => Or.elim (hA35 k hk) (fun h => Es k h e) (fun h => by have := au uV; omega)
 replace ax := lN.ag (nX.ag ax)
 replace ax := pF.get ax (fun h => Own.aP fK ax (by decide) _ h rfl)
 replace aW := N35
 replace ah := lN.ag (nX.ag ah)
 replace ah := pF.get ah (fun h => Own.aP fK ah (by decide) _ h rfl)
 replace af := lN.ag (nX.ag af)
 replace af := pF.get af (fun h => by (have := Own.ge fK h; omega))
 replace ae := (ae.ai nX).ai lN
 replace ae := ae.eH pF (fun k hk hs => by have := jP k hk; have := (Own.ge fK hs).1; omega)
 replace di := lN.ag (nX.ag di)
 replace di := pF.get di (fun h => Own.aP fK di (by decide) _ h rfl)
 replace iQ := lN.ag (nX.ag iQ)
 replace iQ := pF.get iQ (fun h => Own.aP fK iQ (by decide) _ h rfl)
 replace iR := lN.ag (nX.ag iR)
 replace iR := pF.get iR (fun h => Own.aP fK iR (by decide) _ h rfl)
 replace mF := lN.ag (nX.ag mF)
 replace bg := lN.ag (nX.ag bg)
 replace aZ := lN.ag (nX.ag aZ)
 replace mF := pF.get mF (fun h => Own.iY fK mF (by assumption) _ h rfl)
 replace bg := pF.get bg (fun h => Own.iY fK bg (by assumption) _ h rfl)
 replace aZ := pF.get aZ (fun h => Own.lh fK aZ _ h rfl)
 replace hF := hF.go pF (fun i h hs => by (have := (Own.ge fK hs).1; omega))
 clear fK
 refine aF (fun w36 qN => ?_)
 replace aW := aW.ai qN
 replace ax := qN.ag ax
 refine mM (by kernel_rfl) (Own.DX aW).1 (Own.DX aW).2 ax (Nat.le_of_ble_eq_true rfl) (by (simp [tY]; rfl)) (fun w37 ax _ o9 => ?_)
 replace ae := ae.ai qN
 replace ah := qN.ag ah
 replace af := qN.ag af
 replace di := qN.ag di
 replace iQ := qN.ag iQ
 replace iR := qN.ag iR
 replace mF := qN.ag mF
 replace bg := qN.ag bg
 replace aZ := qN.ag aZ
 replace hF := hF.go0 qN
 replace aW := aW.aA o9 (Own.aP aW (by assumption) (by decide))
 refine aF (fun w38 wG => ?_)
 replace mF := wG.ag (o9.ak mF (Ne.symm CY))
 refine rP mF (fun w39 mF _ uO => ?_)
 replace ae := (ae.aA o9 dN).ai wG
 replace ah := wG.ag (o9.ak ah lJ)
 replace af := wG.ag (o9.ak af fH)
 replace di := wG.ag (o9.ak di (Ne.symm NE))
 replace iQ := wG.ag (o9.ak iQ (Ne.symm Wq))
 replace iR := wG.ag (o9.ak iR (Ne.symm Ws))
 replace bg := wG.ag (o9.ak bg (Ne.symm gW))
 replace aZ := wG.ag (o9.ak aZ (Ne.symm uf))
 replace hF := (hF.go1 o9 fF).go0 wG
 replace aW := aW.ai wG
 replace ax := wG.ag ax
 replace aW := aW.aA uO (Own.iY aW (by assumption) (by assumption))
 replace ae := ae.aA uO zN
 replace ax := uO.ak ax CY
 replace ah := uO.ak ah GH
 replace af := uO.ak af GI
 replace di := uO.ak di Bo
 replace iQ := uO.ak iQ Eo
 replace iR := uO.ak iR Ep
 replace bg := uO.ak bg GL
 replace aZ := uO.ak aZ GK
 replace hF := hF.go1 uO Q4
 exact ⟨_, ax, (by (rw [← Gs.ace hxm (by assumption), ← List.append_assoc, ← zL]; exact aW)), ah, af, ae, di, iQ, iR, mF, bg, aZ, hF⟩
 exact ⟨_, ax, (by rw [Gs.OE, List.take_zero, show Gs.lC cs [] = [] from rfl, List.append_nil, ← List.append_assoc, ← zL, ← zL]; exact aW), ah, af, ae, di, iQ, iR, mF, bg, aZ, hF⟩
 rintro e wE3 ⟨hv, hI | hI⟩
 obtain ⟨v3, ax, aW, ah, af, ae, di, iQ, iR, mF, bg, aZ, hF⟩ := hI
 refine ⟨hv, .inl ⟨mF, fun w40 _ pG => ?_⟩⟩
 replace aW := aW.aA pG (Own.iY aW (by assumption) (by assumption))
 replace bg := pG.ak bg GL
 refine rP bg (fun w41 bg _ G9 => ?_)
 replace ae := ae.aA pG zN
 replace ax := pG.ak ax CY
 replace ah := pG.ak ah GH
 replace af := pG.ak af GI
 replace di := pG.ak di Bo
 replace aZ := pG.ak aZ GK
 replace hF := hF.go1 pG Q4
 replace aW := aW.aA G9 (Own.iY aW (by assumption) (by assumption))
 replace ae := ae.aA G9 fD
 replace ax := G9.ak ax gW
 replace ah := G9.ak ah iJ
 replace af := G9.ak af iE
 replace di := G9.ak di Bj
 replace aZ := G9.ak aZ fQ
 replace hF := hF.go1 G9 jK
 exact ⟨_, ax, (by (rw [← Gs.ajV hx (by assumption), ← List.append_assoc]; rw [List.take_of_length_le (Nat.le_refl _)] at aW; exact aW)), ah, af, ae, di, aZ, bg, hF⟩
 exact hI.elim
 simp only [Z.d, Z.c] at h8
 refine aj (mV) ?_
 refine aH ?_
 replace bg := U8.ag bg
 refine rP bg (fun w42 bg _ wL => ?_)
 replace ae := (ae.aA U7 fD).ai U8
 replace ax := U8.ag (U7.ak ax gW)
 replace ah := U8.ag (U7.ak ah iJ)
 replace af := U8.ag (U7.ak af iE)
 replace di := U8.ag (U7.ak di Bj)
 replace aZ := U8.ag (U7.ak aZ fQ)
 replace hF := (hF.go1 U7 jK).go0 U8
 replace aW := aW.ai U8
 replace aW := aW.aA wL (Own.iY aW (by assumption) (by assumption))
 have zz42 := wL.size
 replace ae := ae.aA wL fD
 replace ax := wL.ak ax gW
 replace ah := wL.ak ah iJ
 replace af := wL.ak af iE
 replace di := wL.ak di Bj
 replace aZ := wL.ak aZ fQ
 replace hF := hF.go1 wL jK
 exact ⟨_, ax, (by (rw [← Gs.ajW hx (by assumption)]; exact aW)), ah, af, ae, di, aZ, bg, hF⟩
 exact ⟨_, ax, (Own.nil _ _ _ _), ah, af, ae, di, aZ, bg, hF⟩
 rintro e wE2 ⟨hv, hI | hI⟩
 obtain ⟨v3, ax, aW, ah, af, ae, di, aZ, bg, hF⟩ := hI
 refine ⟨hv, .inl ⟨bg, fun w43 _ xI => ?_⟩⟩
 replace aW := aW.aA xI (Own.iY aW (by assumption) (by assumption))
 have zz43 := xI.size
 refine hJ1 _ _ ?_
 replace ax := xI.ak ax gW
 replace aZ := xI.ak aZ fQ
 replace hF := hF.go1 xI jK
 exact ⟨_, _, (by rfl), nG, aZ, ax, aW, hF⟩
 exact hI.elim
 replace hF := hF.go0 U2
 obtain ⟨D2, v3, g1000000, nG, aZ, ax, aW, hF⟩ := hI
 rw [g1000000]
 refine Z.l ax ?_
 refine leave1 aZ (fun w45 _ CQ => ?_)
 replace ae := ae.ai U2
 replace af := U2.ag af
 replace ah := U2.ag ah
 replace aW := aW.aA CQ (Own.lh aW (by assumption))
 have zz45 := CQ.size
 replace hF := hF.go1 CQ nG
 exact ⟨_, rfl, aW, hF⟩
theorem ae5 {r c cur : Int} {A : Option Addr} {n cp bp B0 : Nat} {cs : List Gs.Cell} {w : World} (af : Z.h w bp #[Z.i r, Z.i c, .slice A n cp, Z.i cur] 91) (ae : Own B0 w 37 5 (.slice A n cp) (rows Gs.cv cs)) (hn : n = cs.length) {x : Int} (hp : 0 < n) (hN : Gs.aU r c = n) (hb : n ≤ 4096) (hcw : Gs.jq cs)  :
    oX 55 #[Z.p bp, Z.u x] w fun e w' => ∃ v, e = .returned v ∧ Own w.heap.size w' 5 1 v (vals .u8 (Gs.allB cs cur x)) ∧ az no w w' := by
 refine F55.calls ?_
 unfold F55
 subst hn
 have hwl := Gs.zk cs (Gs.eU cs)
 rw [Gs.rV] at hwl
 have hoe := Gs.acf hb
 have hF : az no w w := Fr.refl _ _ _
 refine dD (e := 5) (m := 1) (z := #[Z.u 0]) (by kernel_rfl) (by kernel_rfl) (by rfl) (by decide) (by (simp [eP, splice, gq, Value.cells, Gs.cv, Gs.fv, Gs.ie]; rfl)) (fun b1 w1 e1 ah _ U1 => ?_)
 have jW : bp ≠ b1 := by have := au af; omega
 have gV := ae.apart e1
 have bU : w.heap.size ≤ b1 := by have := hF.size; omega
 have zz1 := U1.size
 have cu := Own.of_block (B := w.heap.size) (n := 1) (xs := vals .u8 [x]) (size := 1) ah bU rfl (by decide)
 replace ae := ae.ai U1
 replace af := U1.ag af
 refine aG (gz af ae rfl) (fun w2 U2 => ?_)
 have zz2 := U2.size
 replace ae := ae.ai U2
 replace af := U2.ag af
 refine aJ (ND af ae rfl (i := cur)) (fun v3 w3 D3 => ?_)
 obtain ⟨A11, c11, rfl, Uu, gA11, U3⟩ := D3
 have zz3 := U3.size
 replace hF := ((hF.go0 U1).go0 U2).go0 U3
 replace cu := (cu.ai U2).ai U3
 refine ji (e := 5) (size := 1) (bytes := 1) (by kernel_rfl) cu Uu (by (simp [vals_length]; done)) vz (by simp only [vals_length, List.length_take, List.length_cons, List.length_nil, List.length_append, List.length_map, List.length_range]; omega) (by have := hF.size; omega) (fun v4 w4 N4 hA4 U4 => ?_)
 have nS := cu
 replace af := U3.ag af
 replace af := U4.get af (fun hs => by cases hs; exact jW rfl)
 replace ae := ae.ai U3
 replace ae := ae.eH U4 (fun k hk hs => by cases hs; exact gV _ hk rfl)
 replace cu := N4
 replace hF := hF.go U4 (fun i h hs => by (have := (Own.ge nS hs).1; omega))
 have zz4 := U4.size
 clear nS
 refine dS (AC af ae rfl hN hb) (fun w5 U5 h5 => ?_) (fun w5 U5 h5 => ?_)
 have zz5 := U5.size
 simp only [Z.d, Z.c] at h5
 refine aH ?_
 replace ae := ae.ai U5
 replace af := U5.ag af
 refine aJ (Wp af ae rfl hN hb hcw) (fun v6 w6 D6 => ?_)
 obtain ⟨xh, U6⟩ := D6
 obtain ⟨A17, c17, rfl, _⟩ := xh.bC
 replace hF := hF.go0 U5
 replace xh := xh.mono (B' := w.heap.size) hF.size
 have zz6 := U6.size
 replace cu := (cu.ai U5).ai U6
 replace hF := hF.go0 U6
 refine ji (e := 5) (size := 1) (bytes := 1) (by kernel_rfl) cu xh.xC (by (simp [vals_length]; done)) vz (by simp only [vals_length, List.length_take, List.length_cons, List.length_nil, List.length_append, List.length_map, List.length_range]; omega) (by have := hF.size; omega) (fun v7 w7 N7 hA7 U7 => ?_)
 have nS := cu
 replace hF := hF.go U7 (fun i h hs => by (have := (Own.ge nS hs).1; omega))
 have zz7 := U7.size
 clear nS
 exact ⟨_, rfl, by rw [← Gs.TT (Gs.agF hp (by assumption))]; assumption, hF⟩
 have zz5 := U5.size
 simp only [Z.d, Z.c] at h5
 refine aB ?_
 replace ae := ae.ai U5
 replace af := U5.ag af
 refine aJ (aaT af ae rfl hb) (fun v9 w9 D9 => ?_)
 obtain ⟨Q5, U9⟩ := D9
 obtain ⟨A21, c21, rfl, _⟩ := Q5.bC
 replace hF := hF.go0 U5
 replace Q5 := Q5.mono (B' := w.heap.size) hF.size
 have zz9 := U9.size
 replace cu := (cu.ai U5).ai U9
 replace hF := hF.go0 U9
 refine ji (e := 5) (size := 1) (bytes := 1) (by kernel_rfl) cu Q5.xC (by (simp [vals_length]; done)) vz (by simp only [vals_length, List.length_take, List.length_cons, List.length_nil, List.length_append, List.length_map, List.length_range]; omega) (by have := hF.size; omega) (fun v10 w10 N10 hA10 aT => ?_)
 have nS := cu
 replace hF := hF.go aT (fun i h hs => by (have := (Own.ge nS hs).1; omega))
 have zz10 := aT.size
 clear nS
 exact ⟨_, rfl, by rw [← Gs.TU (Gs.aam hp (by assumption))]; assumption, hF⟩
theorem Qk {r c cur : Int} {A : Option Addr} {n cp bp B0 : Nat} {cs : List Gs.Cell} {w : World} (af : Z.h w bp #[Z.i r, Z.i c, .slice A n cp, Z.i cur] 91) (ae : Own B0 w 37 5 (.slice A n cp) (rows Gs.cv cs)) (hn : n = cs.length) {x : Int} (hp : 0 < n) (hN : Gs.aU r c = n) (hb : n ≤ 4096) (hcw : Gs.jq cs)  :
    oX 20 #[Z.p bp, Z.u x] w fun e w' => ∃ v, e = .returned v ∧ Own w.heap.size w' 5 1 v (vals .u8 (Gs.readB cs cur x)) ∧ az no w w' := by
 refine F20.calls ?_
 unfold F20
 have uA := au af
 have jP := Own.lt ae
 have hF : az no w w := Fr.refl _ _ _
 refine dS (Ny) (fun w1 U1 h1 => ?_) (fun w1 U1 h1 => ?_)
 have zz1 := U1.size
 simp only [Z.d, Z.c] at h1
 refine aH ?_
 refine dD (e := 5) (m := 1) (z := #[Z.u 0]) (by kernel_rfl) (by kernel_rfl) (by rfl) (by decide) (by (simp [eP, splice, gq, Value.cells, Gs.cv, Gs.fv, Gs.ie]; rfl)) (fun b2 w2 e2 ax _ U2 => ?_)
 replace af := U1.ag af
 have fH : bp ≠ b2 := by have := au af; omega
 replace ae := ae.ai U1
 have dN := ae.apart e2
 replace hF := hF.go0 U1
 have fF : w.heap.size ≤ b2 := by have := hF.size; omega
 have zz2 := U2.size
 replace hF := hF.go0 U2
 exact ⟨_, rfl, by rw [Gs.ahP (by assumption)]; exact Own.of_block (n := 1) (xs := [_]) (by assumption) (by omega) rfl (by decide), hF⟩
 have zz1 := U1.size
 simp only [Z.d, Z.c] at h1
 refine aB ?_
 replace ae := ae.ai U1
 replace af := U1.ag af
 refine aJ (ae5 af ae hn hp hN hb hcw) (fun v4 w4 D4 => ?_)
 obtain ⟨Ju, U4⟩ := D4
 obtain ⟨A11, c11, rfl, _⟩ := Ju.bC
 have aiI : ¬ aC _ bp := fun h => by have := (Own.ge Ju h).1; have := au af; omega
 have agY : ∀ k, aC _ k → ¬ aC _ k := fun k hk hs => by have := (Own.ge ae hk).2; have := (Own.ge Ju hs).1; omega
 replace hF := hF.go0 U1
 replace Ju := Ju.mono (B' := w.heap.size) hF.size
 have zz4 := U4.size
 replace hF := hF.go0 U4
 exact ⟨_, rfl, by rw [Gs.ahQ (by assumption)]; exact Ju, hF⟩
section
variable (R : Ending → World → Prop) (w : World)
set_option maxRecDepth 100000
def F8 : Prop :=
 oD 32 #[(0, (Z.i 1)), (1, (Z.i 6))] w R fun t7 w =>
 oC 33 #[t7] w R fun t8 w =>
 oE t8 0 w R fun t9 w =>
 oE t8 1 w R fun t10 w =>
 oQ true .eql 33 t9 (.pointer none) w R fun t12 w =>
 cond t12 (R (.returned (.bool false)) w)
 (oD 37 #[(2, (.bool true))] w R fun t14 w =>
 oC 14 #[t9, (Z.i 0), t14] w R fun t15 w =>
 oC 36 #[t9, (Z.i 1)] w R fun t17 w =>
 oC 37 #[t9, (Z.u 193), (.bool false)] w R fun t19 w =>
 oC 20 #[t9, (Z.u 125)] w R fun t22 w =>
 oC 19 #[t22] w R fun t23 w =>
 oE t23 0 w R fun t24 w =>
 oE t23 1 w R fun t25 w =>
 oA 48 w R fun t4 w =>
 oS 48 t4 t24 w R fun _ w =>
 oQ true .eql 25 t19 (Z.i 0) w R fun t27 w =>
 gd t27 true (fun K => K t25 w) w fun t29 w =>
 gd t27 true (fun K => oQ true .eql 25 t29 (Z.i 0) w R K) w fun t30 w =>
 pick t27 t30 (.bool false) w fun t31 w =>
 gd t31 true (fun K => oL 48 t4 w R K) w fun t33 w =>
 gd t31 true (fun K => oC 38 #[(Z.i 37), t33] w R K) w fun t34 w =>
 gd t31 true (fun K => oQ true .eql 9 t34 (.string ⟨#[69, 78, 84, 69, 82, 32, 64, 50, 32, 49, 61, 65]⟩) w R K) w fun t35 w =>
 pick t31 t35 (.bool false) w fun t36 w =>
 gd t36 true (fun K => oC 39 #[(Z.i 37), (Z.u 193)] w R K) w fun t38 w =>
 gd t36 true (fun K => oQ true .eql 21 t38 (.int .i32 65) w R K) w fun t39 w =>
 pick t36 t39 (.bool false) w fun t40 w =>
 R (.returned t40) w)
theorem F8.calls {R w} : F8 R w → oX 8 #[] w R := Z.k (args := []) [0,1,3,4,5,12]
end
theorem MX {A : Option Addr} {n cp : Nat} {bs : List Int} {w : World} (bC : Rd w A (vals .u8 bs)) (hn : n = bs.length) (hc : n ≤ cp) (hbs : Bs bs) (hbd : n ≤ 100000) :
    oX 19 #[.slice A n cp] w fun e w' => ∃ v, e = .returned v ∧ ∃ (q : Gs.Inb) (l : List Gs.It) (A' : Option Addr) (c' : Nat), q = Gs.KE bs ∧ q.items = Gs.its l ∧ v = .tuple #[.agg #[Z.u q.iK, .bool q.alone, Z.i q.cur, .slice A' l.length c'], Z.i (Gs.Yj (Gs.sK bs))] ∧ Rd w' A' (rows Gs.ie l) ∧ Gs.Cl w' l ∧ Gs.Iw l ∧ uK A' (rows Gs.ie l) w.heap.size ∧ Gs.PP l w.heap.size ∧ (0 ≤ q.iK ∧ q.iK ≤ 255) ∧ az no w w' := by
 refine F19.calls ?_
 unfold F19
 have hF : az no w w := Fr.refl _ _ _
 refine Z.n (#[Z.u 0, .bool false, Z.i 0, .slice none 0 0]) (fun b1 w1 e1 ah _ U1 => ?_)
 have bU : w.heap.size ≤ b1 := by have := hF.size; omega
 replace bC := bC.ai U1
 refine aJ (Ru bC hn hc hbs hbd) (fun v2 w2 D2 => ?_)
 obtain ⟨q5, l5, A5, c5, hq5, hi5, rfl, Sv, aeg, hw5, gA5, gC05, ha5, U2⟩ := D2
 have gC5 : Gs.PP l5 _ := .inr gC05
 replace hF := hF.go0 U1
 have qF5 := hF.size
 have abW := gA5.ne (au ah)
 have Z9 := gC5.ne (au ah)
 refine Z.e ?_
 refine Z.e ?_
 replace ah := U2.ag ah
 refine Z.t 4 (#[Z.u q5.iK, .bool q5.alone, Z.i q5.cur, .slice A5 l5.length c5]) (by (simp [Value.cells, Value.oneCell', Gs.cv, Gs.ie]; done)) ah (fun w3 ah _ U3 => ?_)
 refine Z.a 4 ah ?_
 replace hF := (hF.go0 U2).go1 U3 bU
 replace Sv := Sv.aA U3 abW
 replace aeg := aeg.aA U3 Z9
 exact ⟨_, rfl, q5, l5, A5, c5, hq5, hi5, rfl, Sv, aeg, hw5, gA5.mono qF5, gC5.mono qF5, ha5, hF⟩
open Go Go.Sh Go.RowKit
theorem Oa (b : Nat) (w : World) (h0 : w.cell? ⟨b, 0, none⟩ = some (.pointer (some ⟨b, 0, none⟩))) :
    Calls Tryz.prog 100 #[.pointer (some ⟨b, 0, none⟩)] w fun e w' => e = .returned (.tuple #[]) ∧ w' = w := by
 obtain ⟨j, hj, hjs⟩ : ∃ j, Tryz.prog.info? 108 = some j ∧ j.size = 2 := by
   have h : (Tryz.prog.info? 108).map (·.size) = some 2 := by kernel_rfl
   obtain ⟨j, hj, hjs⟩ := Option.map_eq_some_iff.1 h
   exact ⟨j, hj, hjs⟩
 go_enter Tryz.func100, Tryz.ntmps100
 go_wp2
 rw [Lib.run_neq_ptr_same w _ Tryz.underlying106 hj]
 go_wp2
 go_end0
 exact ⟨rfl, rfl⟩
theorem LK (b : Nat) (w : World) (h0 : w.cell? ⟨b, 0, none⟩ = some (.pointer none)) (hsh : w.shape? b = some (108, 2)) (hfz : w.frozen? ⟨b, 0, none⟩ = false) :
    Calls Tryz.prog 100 #[.pointer (some ⟨b, 0, none⟩)] w fun e w' => e = .returned (.tuple #[]) ∧ w' = w.setCell ⟨b, 0, none⟩ (.pointer (some ⟨b, 0, none⟩)) := by
 obtain ⟨j, hj, hjs⟩ : ∃ j, Tryz.prog.info? 108 = some j ∧ j.size = 2 := by
   have h : (Tryz.prog.info? 108).map (·.size) = some 2 := by kernel_rfl
   obtain ⟨j, hj, hjs⟩ := Option.map_eq_some_iff.1 h
   exact ⟨j, hj, hjs⟩
 go_enter Tryz.func100, Tryz.ntmps100
 go_wp2
 rw [Lib.run_to_unsafe w ⟨b, 0, none⟩ Tryz.underlying106 Tryz.underlying197 hj (by rw [hjs]; decide) hsh (Nat.zero_lt_succ 1)]
 simp only [Result.andThen]
 rw [Oper.upon_value]
 go_wp2
 rw [run_callFunc_extern Tryz.func143 (by kernel_rfl) (by kernel_rfl) (by kernel_rfl) (e := Extern.AbiNoEscape.same) (by kernel_rfl)]
 rw [Lib.run_noEscape]
 simp only [Result.andThen]
 rw [Oper.upon_value]
 go_wp2
 rw [Lib.run_from_unsafe w ⟨b, 0, none⟩ Tryz.underlying197 Tryz.underlying106 hj hsh (by kernel_rfl)]
 simp only [Result.andThen]
 rw [Oper.upon_value]
 go_wp2
 go_end0
 exact ⟨rfl, rfl⟩
def l9 (B : Nat) (w : World) (b : Nat) (v : Value) (l : List Value) : Prop :=
  (∃ p, (p = .pointer none ∨ p = .pointer (some ⟨b, 0, none⟩)) ∧ w.heap[b]? = some (.cells #[p, v] 108 (0, 0))) ∧ Own B w 5 1 v l ∧ ∀ k, aC v k → k ≠ b
def Ky (b : Nat) (v : Value) : Nat → Prop := fun k => k = b ∨ aC v k
theorem l9.lt {B b : Nat} {w : World} {v : Value} {l : List Value} (h : l9 B w b v l) : b < w.heap.size := by obtain ⟨⟨p, _, hb⟩, _⟩ := h; exact au hb
theorem l9.ge {B b : Nat} {w : World} {v : Value} {l : List Value} (h : l9 B w b v l) {k : Nat} (hk : aC v k) : B ≤ k := (h.2.1.ge hk).1
theorem l9.eH {S : Nat → Prop} {B b : Nat} {w w' : World} {v : Value} {l : List Value} (h : l9 B w b v l) (u : az S w w') (hs : ∀ k, Ky b v k → ¬ S k) : l9 B w' b v l := by
  obtain ⟨⟨p, hp, hb⟩, ho, hn⟩ := h
  exact ⟨⟨p, hp, u.get hb (hs b (.inl rfl))⟩, ho.eH u (fun k hk => hs k (.inr hk)), hn⟩
theorem l9.ai {B b : Nat} {w w' : World} {v : Value} {l : List Value} (h : l9 B w b v l) (u : az no w w') : l9 B w' b v l := h.eH u (fun _ _ => id)
theorem l9.aA {B b g : Nat} {w w' : World} {v : Value} {l : List Value} (h : l9 B w b v l) (u : az (· = g) w w') (hs : ∀ k, Ky b v k → k ≠ g) : l9 B w' b v l := h.eH u hs
theorem l9.new {w : World} {b : Nat} (hb : w.heap[b]? = some (.cells #[.pointer none, .slice none 0 0] 108 (0, 0))) (B : Nat) : l9 B w b (.slice none 0 0) [] :=
  ⟨⟨_, .inl rfl, hb⟩, Own.nil _ _ _ _, fun k hk => by cases hk⟩
theorem Vr {w : World} {b o : Nat} {v : Value} : az (· = b) w (w.setCell ⟨b, o, none⟩ v) :=
  ⟨rfl, rfl, rfl, by simp [World.setCell], fun k _ hs => by simp only [World.setCell, Array.getElem?_modify]; rw [if_neg (fun e => hs e.symm)]⟩
theorem Vs {B b : Nat} {w : World} {v : Value} {l : List Value} (h : l9 B w b v l) :
    Calls Tryz.prog 100 #[.pointer (some ⟨b, 0, none⟩)] w fun e w' => e = .returned (.tuple #[]) ∧ w'.heap[b]? = some (.cells #[.pointer (some ⟨b, 0, none⟩), v] 108 (0, 0)) ∧ w'.heap.size = w.heap.size ∧ az (· = b) w w' := by
 obtain ⟨⟨p, rfl | rfl, hb⟩, _⟩ := h
 refine (LK b w (by simp [World.cell?, hb]) (by simp [World.shape?, hb]) (by simp [World.frozen?, hb])).mono ?_
 rintro e w' ⟨rfl, rfl⟩
 exact ⟨rfl, by simp [World.setCell, Array.getElem?_modify, hb], by simp [World.setCell], Vr⟩
 refine (Oa b w (by simp [World.cell?, hb])).mono ?_
 rintro e w' ⟨rfl, rfl⟩
 exact ⟨rfl, hb, rfl, Fr.refl _ _ _⟩
theorem strCells_eq (s : ByteArray) : Lib.strCells s = Lib.byteCells s.data.toList := by
  simp [Lib.strCells, Lib.byteCells]
theorem Ai {B b : Nat} {s : ByteArray} {w : World} {v : Value} {l : List UInt8} (h : l9 B w b v (Lib.byteCells l)) (hl : l.length ≤ 17592186044416) (hs : s.size ≤ 17592186044416) (hB : B ≤ w.heap.size) :
    Calls Tryz.prog 76 #[.pointer (some ⟨b, 0, none⟩), .string s] w fun e w' => ∃ x, e = .returned x ∧ ∃ v', l9 B w' b v' (Lib.byteCells (l ++ s.data.toList)) ∧ az (Ky b v) w w' := by
 refine F76.calls ?_
 unfold F76
 obtain ⟨_, ho, hn⟩ := id h
 refine aG (Vs h) fun w1 ⟨h1, s1, u1⟩ => ?_
 refine dm ?_
 refine aj (oM (off := 1) (by kernel_rfl)) ?_
 refine aj (kK (by kernel_rfl) h1 (by rfl)) ?_
 have ho1 := ho.aA u1 hn
 obtain ⟨n, hr⟩ := id ho1
 have hn1 : n = l.length := by have := hr.1; simp [Lib.byteCells] at this; omega
 subst hn1
 obtain ⟨i, hi, hi1, hi2, hi3⟩ : ∃ i, (Tryz.prog).info? 5 = some i ∧ i.zero = some (.int .u8 0) ∧ i.size = 1 ∧ i.bytes = 1 := by
   have h : (match (Tryz.prog).info? 5 with | some i => (match i.zero with | some (.int .u8 0) => true | _ => false) && i.size == 1 && i.bytes == 1 | none => false) = true := by kernel_rfl
   split at h
   · rename_i i hi
     simp only [Bool.and_eq_true, beq_iff_eq] at h
     refine ⟨i, hi, ?_, h.1.2, h.2⟩
     have h2 := h.1.1
     split at h2
     · assumption
     · cases h2
   · cases h
 obtain ⟨v3, w3, r1, r2, r3, _⟩ := Lib.run_append_own_string (P := Tryz.prog) w1 B 24 9 24 5 i Tryz.underlying24 Tryz.underlying9 hi hi1 hi2 hi3 v l.length _ hr s (by simp only [maxLen]; omega) (by omega) (by omega)
 refine aj r1 ?_
 have u3 : az (aC v) w1 w3 := ⟨r3.os, r3.tape, r3.output, r3.size, fun k hk hs => r3.block k hk (fun e => hs e)⟩
 have N3 : Own B w3 5 1 v3 (Lib.byteCells (l ++ s.data.toList)) := ⟨_, by rw [strCells_eq] at r2; simpa [Lib.byteCells] using r2⟩
 have h13 := u3.get h1 (fun hk => hn b hk rfl)
 refine dm ?_
 refine aj (oM (off := 1) (by kernel_rfl)) ?_
 have hlt := h.lt
 have hn3 : ∀ k, aC v3 k → k ≠ b := by
   intro k hk e
   subst e
   rcases h13' : N3 with ⟨n, _, h' | ⟨g, cap, cur, hv, _, hg, _⟩⟩
   · rw [h'.1] at hk; cases hk
   · rw [hv] at hk
     cases hk
     rw [h13] at hg
     have := (Option.some.inj hg)
     cases this
 have hsz : (Value.cells v3) = #[v3] ∧ v3.oneCell' = true := by
   rcases N3 with ⟨n, _, h' | ⟨g, cap, cur, hv, _⟩⟩
   · rw [h'.1]; exact ⟨rfl, rfl⟩
   · rw [hv]; exact ⟨rfl, rfl⟩
 refine mM (by kernel_rfl) hsz.1 hsz.2 h13 (by simp) rfl (fun w4 h4 s4 u4 => ?_)
 refine aj (ag9 (by kernel_rfl) _) ?_
 refine ⟨_, rfl, v3, ⟨⟨_, .inr rfl, h4⟩, N3.aA u4 hn3, hn3⟩, ?_⟩
 have a := (Fr.refl (Ky b v) _ w).go u1 (fun i _ h => .inl h)
 have a := a.go u3 (fun i _ h => .inr h)
 exact a.go u4 (fun i _ h => .inl h)
theorem l9.apart {B b g : Nat} {w : World} {v : Value} {l : List Value} (h : l9 B w b v l) (e : g = w.heap.size) : ∀ k, Ky b v k → k ≠ g := fun k hk he => by
  rcases hk with hk | hk
  · have := h.lt; omega
  · have := (h.2.1.ge hk).2; omega
theorem l9.iY {B b g : Nat} {w : World} {v : Value} {l : List Value} {o : Obj} (h : l9 B w b v l) (hl : w.heap[g]? = some o) (lp : Aw o = true) : ∀ k, Ky b v k → k ≠ g := fun k hk he => by
  rcases hk with hk | hk
  · obtain ⟨⟨p, _, hb⟩, _⟩ := h
    exact Rf hb hl lp (by omega)
  · exact Own.iY h.2.1 hl lp k hk he
theorem l9.lh {B b g : Nat} {w : World} {v : Value} {l : List Value} {d : Option (List Deferred)} (h : l9 B w b v l) (hl : w.heap[g]? = some (.deferred d)) : ∀ k, Ky b v k → k ≠ g := fun k hk he => by
  rcases hk with hk | hk
  · obtain ⟨⟨p, _, hb⟩, _⟩ := h
    exact JD hb hl (by omega)
  · exact Own.lh h.2.1 hl k hk he
theorem Pn (w : World) (o : Obj) : az no w (w.alloc o) := ⟨rfl, rfl, rfl, by simp, fun k hk _ => heap_alloc_old w o hk⟩
theorem X4 (w : World) (g n : Nat) : az (fun k => some k = some g) w (w.freeze ⟨g, 0, none⟩ n) := by
  unfold World.freeze
  split
  · exact Fr.refl _ _ _
  · exact ⟨rfl, rfl, rfl, by simp, fun k hk hs => by
      simp only [Array.getElem?_modify]
      rw [if_neg (fun e => hs (by rw [← e]))]⟩
theorem abl {B b : Nat} {w : World} {v : Value} {l : List UInt8} (h : l9 B w b v (Lib.byteCells l)) (hl : l.length ≤ 17592186044416) :
    Calls Tryz.prog 60 #[.pointer (some ⟨b, 0, none⟩)] w fun e w' => e = .returned (.string ⟨l.toArray⟩) ∧ az (aC v) w w' := by
 refine F60.calls ?_
 unfold F60
 obtain ⟨⟨p, hp, hb⟩, ho, hn⟩ := h
 have hF : az (aC v) w w := Fr.refl _ _ _
 refine dQ (S := aC v) (fun w1 U1 => ?_)
 have hb1 := U1.ag hb
 have ho1 := ho.ai U1
 refine gK ?_
 refine bi (fun w' hw' => oM (off := 1) (by kernel_rfl)) ?_
 refine bi (fun w' hw' => kK (by kernel_rfl) (by exact (Fr.jA hw').ag hb1) (by rfl)) ?_
 refine gK ?_
 refine bi (fun w' hw' => oM (off := 1) (by kernel_rfl)) ?_
 refine bi (fun w' hw' => kK (by kernel_rfl) (by exact hw'.get hb1 (fun hk => hn b hk rfl)) (by rfl)) ?_
 obtain ⟨n, hln, hor⟩ := id ho1
 rw [Lib.byteCells_length, Nat.mul_one] at hln
 subst hln
 rcases hor with ⟨rfl, h0⟩ | ⟨g, cap, cur, rfl, hbg, hg, hnc, hcm, hcs, htk⟩
 have hl0 : l = [] := List.length_eq_zero_iff.1 h0
 subst hl0
 refine bi (fun w' hw' => gm (by kernel_rfl) _ _ _) ?_
 refine aF (fun w2 U2 => ?_)
 refine jC (aj (Lib.run_unsafeSliceData_nil _ _ _ _ _) ⟨Fr.refl _ _ _, ?_⟩)
 refine aF (fun w3 U3 => ?_)
 refine aj (Lib.run_unsafeString_none _ _ _ _ _) ?_
 refine aF (fun w4 U4 => ?_)
 replace hF := hF.go0 U1
 exact ⟨rfl, ((hF.go0 U2).go0 U3).go0 U4⟩
 by_cases hl0 : l = []
 subst hl0
 refine bi (fun w' hw' => gm (by kernel_rfl) _ _ _) ?_
 refine aF (fun w2 U2 => ?_)
 by_cases hc0 : cap = 0
 subst hc0
 have hg2 := U2.ag hg
 refine jC (aj (Lib.run_unsafeSliceData_zero _ _ _ 5 (by kernel_rfl) ⟨g, 0, none⟩ _ (5, cur.size) (by simp [World.shape?, hg2])) ⟨(Pn _ _).any, ?_⟩)
 refine aF (fun w3 U3 => ?_)
 refine aj (Lib.run_unsafeString_none _ _ _ _ _) ?_
 refine aF (fun w4 U4 => ?_)
 replace hF := hF.go0 U1
 exact ⟨rfl, (((hF.go0 U2).go0 (Pn _ _)).go0 U3).go0 U4⟩
 refine jC (aj (Lib.run_unsafeSliceData_row _ _ _ _ _ _ hc0) ⟨Fr.refl _ _ _, ?_⟩)
 refine aF (fun w3 U3 => ?_)
 refine aj (Lib.run_unsafeString_none _ _ _ _ _) ?_
 refine aF (fun w4 U4 => ?_)
 replace hF := hF.go0 U1
 exact ⟨rfl, ((hF.go0 U2).go0 U3).go0 U4⟩
 have hlp : 0 < l.length := List.length_pos_iff.2 hl0
 refine bi (fun w' hw' => gm (by kernel_rfl) _ _ _) ?_
 refine aF (fun w2 U2 => ?_)
 refine jC (aj (Lib.run_unsafeSliceData_row _ _ _ _ _ _ (by omega)) ⟨Fr.refl _ _ _, ?_⟩)
 refine aF (fun w3 U3 => ?_)
 have hg3 := U3.ag (U2.ag hg)
 have ho3 := (ho1.ai U2).ai U3
 refine aj (Lib.run_unsafeString_row w3 _ _ _ 5 (by kernel_rfl) (by kernel_rfl) g cur.size (by simp [World.shape?, hg3]) l hl0 (by omega) (by omega) (fun j x hx => ?_)) ?_
 obtain ⟨n', _, hor'⟩ := ho3
 rcases hor' with ⟨hv, _⟩ | ⟨g', cap', cur', hv, _, hg', _, _, _, htk'⟩
 cases hv
 cases hv
 have e : (⟨g, 0, none⟩ : Addr).add j = ⟨g, j, none⟩ := by
   unfold Addr.add; split
   · rename_i h; subst h; rfl
   · simp
 have h2 : (Lib.byteCells l)[j]? = some (.int .u8 x.toNat) := by simp [Lib.byteCells, hx]
 rw [← htk', List.getElem?_take] at h2
 split at h2
 rw [e, Lib.cell_of_heap hg']; simpa using h2
 cases h2
 refine aF (fun w4 U4 => ?_)
 replace hF := hF.go0 U1
 exact ⟨rfl, (((hF.go0 U2).go0 U3).go (X4 _ _ _) (fun i _ h => h)).go0 U4⟩
theorem abX {n : Int} {w : World} {gT : Nat} {eT : TypeId} {fT : Nat × Nat} (hgT : Tryz.prog.globalNamed "internal/strconv.uint64pow10" = some gT) (fM : w.heap[gT]? = some (.cells Gs.Ap eT fT)) (hn : -9223372036854775808 ≤ n ∧ n ≤ 9223372036854775807) :
    oX 77 #[Z.i n] w fun e w' => e = .returned (.string (Gs.yu n)) ∧ az no w w' :=
  (Go.Proofs.Tryz.strconv_Itoa n hn.1 hn.2 w (ajN hgT fM)).mono fun e w' ⟨h, k, os, hw⟩ => ⟨h, by
    subst hw
    exact Fr.of_below (Lib.below_grow w.heap.size w (Nat.le_refl _) k os)⟩
theorem abY {page : Int} {iK cur : Int} {al : Bool} {A : Option Addr} {n cp : Nat} {l : List Gs.It} {gT : Nat} {eT : TypeId} {fT : Nat × Nat} {w : World} (rd : Rd w A (rows Gs.ie l)) (hn : n = l.length) (jB : Gs.Cl w l) (hgT : Tryz.prog.globalNamed "internal/strconv.uint64pow10" = some gT) (fM : w.heap[gT]? = some (.cells Gs.Ap eT fT)) (ha : 0 ≤ iK ∧ iK ≤ 255) (hcur : -9223372036854775808 ≤ cur ∧ cur ≤ 9223372036854775807) (hiw : Gs.Iw l) (hat : ∀ x ∈ l, -9223372036854775808 ≤ x.at' ∧ x.at' ≤ 9223372036854775807) (hbd : n ≤ 100000) (hcb : ∀ x ∈ l, x.cs.length ≤ 100000) :
    oX 38 #[Z.i page, .agg #[Z.u iK, .bool al, Z.i cur, .slice A n cp]] w fun e w' => e = .returned (.string ⟨(Gs.TD page ⟨iK, al, cur, Gs.its l⟩).toArray⟩) ∧ az no w w' := by
 refine F38.calls ?_
 unfold F38
 have hgl := au fM
 have hns := Gs.MZ ha
 have his := Gs.F5 hcur
 have hds := Gs.aeh ha hcur
 have h1s := Gs.Xj
 have h2s := Gs.Xk
 have h3s := Gs.PQ
 have aab := rd.lt
 have TE := jB.lt
 have hF : az no w w := Fr.refl _ _ _
 refine Z.x (#[Z.u iK, .bool al, Z.i cur, .slice A n cp]) (fun b1 w1 e1 ah _ U1 => ?_)
 refine Z.f 1 ?_
 refine mQ (kK (by kernel_rfl) ah (by rfl)) (fun h2 => ?_) (fun h2 => ?_)
 refine aH ?_
 refine Z.f 0 ?_
 refine Z.l ah ?_
 refine aG (EO ha) (fun w3 U3 => ?_)
 replace hF := (hF.go0 U1).go0 U3
 exact ⟨congrArg (fun s => Ending.returned (.string s)) ((Gs.str_eq _).trans (by rw [Gs.ajO (show al = true from by assumption)])), hF⟩
 refine aB ?_
 refine Z.n (#[.pointer none, .slice none 0 0]) (fun b5 w5 e5 bV _ U5 => ?_)
 replace rd := rd.ai U1
 have KR := rd.apart e5
 replace jB := jB.ai U1
 have Iy := jB.apart e5
 replace fM := U1.ag fM
 have F6 : gT ≠ b5 := by have := au fM; omega
 have ik : b1 ≠ b5 := by have := au ah; omega
 replace hF := hF.go0 U1
 have iF : w.heap.size ≤ b5 := by have := hF.size; omega
 have bld5 : l9 w.heap.size _ b5 (.slice none 0 0) (Lib.byteCells []) := l9.new bV _
 clear bV e5
 refine dQ (S := (· = b5)) (fun w6 U6 => ?_)
 refine Z.g 0 ?_
 replace ah := U6.ag (U5.ag ah)
 refine bi (fun w' hw' => by have ah := hw'.ak ah ik; exact (kK (by kernel_rfl) ah (by rfl))) ?_
 refine fU (fun w' hw' => EO ha) ?_
 refine bi (fun w' hw' => (Oz (by omega))) ?_
 refine Z.g 2 ?_
 refine bi (fun w' hw' => by have ah := hw'.ak ah ik; exact (kK (by kernel_rfl) ah (by rfl))) ?_
 replace fM := U6.ag (U5.ag fM)
 refine fU (fun w' hw' => by have fM := hw'.ak fM F6; exact abX hgT fM hcur) ?_
 refine bi (fun w' hw' => (Oz (by (simp only [Gs.vN]; omega)))) ?_
 refine aF (fun oz bK => ?_)
 replace hF := ((hF.go0 U5).go0 U6).go0 bK
 replace bld5 := (bld5.ai U6).ai bK
 refine aJ (Ai bld5 (Nat.zero_le _) (by (simp only [Gs.vN]; omega)) (by have := hF.size; omega)) (fun x12 w12 D12 => ?_)
 obtain ⟨vb12, N12, cZ⟩ := D12
 have bld5_o := bld5
 replace rd := ((rd.ai U5).ai U6).ai bK
 replace rd := rd.eH cZ (KR.elim .inl fun h1 => aab.imp_right fun h2 k hk hs => Or.elim hs (fun e => absurd e (h1 k hk)) (fun h => by have := h2 k hk; have := l9.ge bld5_o h; omega))
 replace jB := ((jB.ai U5).ai U6).ai bK
 replace jB := jB.eH cZ (Iy.elim .inl fun h1 => TE.imp_right fun h2 k hk hs => Or.elim hs (fun e => absurd e (h1 k hk)) (fun h => by have := h2 k hk; have := l9.ge bld5_o h; omega))
 replace fM := bK.ag fM
 replace fM := cZ.get fM (fun hs => Or.elim hs (fun e => absurd e F6) (fun h => by (have := l9.ge bld5_o h; omega)))
 replace ah := bK.ag ah
 replace ah := cZ.get ah (fun hs => Or.elim hs (fun e => absurd e ik) (fun h => Own.aP bld5_o.2.1 ah (by decide) _ h rfl))
 replace hF := hF.go cZ (fun i h hs => Or.elim hs (fun e => by have := iF; omega) (fun h => by have := l9.ge bld5_o h; omega))
 replace bld5 := N12
 clear bld5_o
 refine aF (fun uM dI => ?_)
 refine bH (fun g w' => ∃ (v5 : Value), (l9 w.heap.size w' b5 v5 (Lib.byteCells ((Gs.JK iK cur).data.toList ++ (Gs.its l).flatMap (Gs.DF page)))) ∧ (az no w w')) (fun J1 hJ1 => ?_) (fun gJ1 jX hI => ?_)
 refine Z.f 3 ?_
 replace ah := dI.ag ah
 refine Z.l ah ?_
 refine aj (gm (by kernel_rfl) _ _ _) ?_
 refine dW (fun g w' => ∃ (k : Nat) (v5 : Value), (g 28 = Z.i (k : Int)) ∧ (k ≤ l.length) ∧ (l9 w.heap.size w' b5 v5 (Lib.byteCells ((Gs.JK iK cur).data.toList ++ (Gs.its (l.take k)).flatMap (Gs.DF page)))) ∧ (Z.h w' b1 #[Z.u iK, .bool al, Z.i cur, .slice A n cp] 48) ∧ (Rd w' A (rows Gs.ie l)) ∧ (Gs.Cl w' l) ∧ (w'.heap[gT]? = some (.cells Gs.Ap eT fT)) ∧ (az no w w')) (fun g w' => l.length - (RowKit.intOf (g 28)).toNat) ?_ (fun g2 qj hI => ?_)
 replace rd := rd.ai dI
 replace jB := jB.ai dI
 replace bld5 := bld5.ai dI
 replace fM := dI.ag fM
 replace hF := hF.go0 dI
 exact ⟨0, _, (by rfl), Nat.zero_le _, (by simpa [Gs.JK, Gs.its] using bld5), ah, rd, jB, fM, hF⟩
 replace rd := rd.ai dI
 replace jB := jB.ai dI
 replace bld5 := bld5.ai dI
 replace fM := dI.ag fM
 replace hF := hF.go0 dI
 obtain ⟨k, v5, g28, hk, bld5, ah, rd, jB, fM, hF⟩ := hI
 rw [g28]
 have hfl := Gs.TF (page := page) hiw hat hcb k
 refine ay (lss _ _ _ _) (fun h14 => ?_) (fun h14 => ?_)
 refine aH ?_
 refine bH (fun g w' => ∃ (v5 : Value), (l9 w.heap.size w' b5 v5 (Lib.byteCells ((Gs.JK iK cur).data.toList ++ (Gs.its (l.take (k + 1))).flatMap (Gs.DF page)))) ∧ (Z.h w' b1 #[Z.u iK, .bool al, Z.i cur, .slice A n cp] 48) ∧ (Rd w' A (rows Gs.ie l)) ∧ (Gs.Cl w' l) ∧ (w'.heap[gT]? = some (.cells Gs.Ap eT fT)) ∧ (az no w w')) (fun J3 hJ3 => ?_) (fun gJ3 Ha hI => ?_)
 refine pK Gs.kH (by kernel_rfl) (by kernel_rfl) rd (by assumption) (by omega) (by omega) (fun x15 BF => ?_)
 simp only [Int.toNat_natCast] at BF
 refine Z.n (#[Z.i 0, .slice none 0 0]) (fun b16 w16 e16 iG _ bZ => ?_)
 have wR := bld5.apart e16
 have xH : b1 ≠ b16 := by have := au ah; omega
 have Iz := rd.apart e16
 have F7 := jB.apart e16
 have abZ : gT ≠ b16 := by have := au fM; omega
 have BL : w.heap.size ≤ b16 := by have := hF.size; omega
 refine Z.t 2 ((Gs.ie x15).toArray) (by (simp [Value.cells, Value.oneCell', Gs.cv, Gs.ie]; done)) iG (fun uo iG _ bY => ?_)
 refine Z.f 0 ?_
 refine Z.l iG ?_
 replace fM := bY.ak (bZ.ag fM) abZ
 refine aG (abX hgT fM (hat _ (List.mem_of_getElem? BF))) (fun uY dE => ?_)
 refine bH (fun g w' => (g 8 = .string (Gs.PS x15.at')) ∧ (l9 w.heap.size w' b5 v5 (Lib.byteCells ((Gs.JK iK cur).data.toList ++ (Gs.its (l.take k)).flatMap (Gs.DF page)))) ∧ (Z.h w' b1 #[Z.u iK, .bool al, Z.i cur, .slice A n cp] 48) ∧ (Z.h w' b16 ((Gs.ie x15).toArray) 54) ∧ (Rd w' A (rows Gs.ie l)) ∧ (Gs.Cl w' l) ∧ (w'.heap[gT]? = some (.cells Gs.Ap eT fT)) ∧ (b16 ≠ b5) ∧ (az no w w')) (fun J4 hJ4 => ?_) (fun gJ4 wJ4 hI => ?_)
 refine Z.f 0 ?_
 replace iG := dE.ag iG
 refine Z.l iG ?_
 refine ay (dC _ _ _ _ _) (fun h19 => ?_) (fun h19 => ?_)
 refine aH ?_
 refine hJ4 _ _ ?_
 replace bld5 := ((bld5.ai bZ).aA bY wR).ai dE
 replace rd := ((rd.ai bZ).aA bY Iz).ai dE
 replace jB := ((jB.ai bZ).aA bY F7).ai dE
 replace ah := dE.ag (bY.ak (bZ.ag ah) xH)
 replace hF := ((hF.go0 bZ).go1 bY BL).go0 dE
 replace fM := dE.ag fM
 exact ⟨(by (rw [Gs.PS, if_pos (by assumption)]; rfl)), bld5, ah, iG, rd, jB, fM, (fun e => wR _ (.inl rfl) e.symm), hF⟩
 refine aB ?_
 refine hJ4 _ _ ?_
 replace bld5 := ((bld5.ai bZ).aA bY wR).ai dE
 replace rd := ((rd.ai bZ).aA bY Iz).ai dE
 replace jB := ((jB.ai bZ).aA bY F7).ai dE
 replace ah := dE.ag (bY.ak (bZ.ag ah) xH)
 replace hF := ((hF.go0 bZ).go1 bY BL).go0 dE
 replace fM := dE.ag fM
 exact ⟨(by (rw [Gs.PS, if_neg (by assumption)]; rfl)), bld5, ah, iG, rd, jB, fM, (fun e => wR _ (.inl rfl) e.symm), hF⟩
 replace bld5 := ((bld5.ai bZ).aA bY wR).ai dE
 replace rd := ((rd.ai bZ).aA bY Iz).ai dE
 replace jB := ((jB.ai bZ).aA bY F7).ai dE
 replace ah := dE.ag (bY.ak (bZ.ag ah) xH)
 replace hF := ((hF.go0 bZ).go1 bY BL).go0 dE
 replace fM := dE.ag fM
 replace iG := dE.ag iG
 obtain ⟨g8, bld5, ah, iG, rd, jB, fM, hne57, hF⟩ := hI
 rw [g8]
 have hps := Gs.TG (hat _ (List.mem_of_getElem? BF))
 refine aj (Oz (by omega)) ?_
 refine aj (Oz (by (simp only [Gs.vN]; omega))) ?_
 refine aJ (Ai bld5 (by simp only [List.length_append, Gs.DI, Gs.vN]; omega) (by (simp only [Gs.vN]; omega)) (by have := hF.size; omega)) (fun x22 ED D22 => ?_)
 obtain ⟨vb22, N22, fB⟩ := D22
 have bld5_o := bld5
 replace rd := rd.eH fB (KR.elim .inl fun h1 => aab.imp_right fun h2 k hk hs => Or.elim hs (fun e => absurd e (h1 k hk)) (fun h => by have := h2 k hk; have := l9.ge bld5_o h; omega))
 replace jB := jB.eH fB (Iy.elim .inl fun h1 => TE.imp_right fun h2 k hk hs => Or.elim hs (fun e => absurd e (h1 k hk)) (fun h => by have := h2 k hk; have := l9.ge bld5_o h; omega))
 replace ah := fB.get ah (fun hs => Or.elim hs (fun e => absurd e ik) (fun h => Own.aP bld5_o.2.1 ah (by decide) _ h rfl))
 replace iG := fB.get iG (fun hs => Or.elim hs (fun e => absurd e (by omega)) (fun h => Own.aP bld5_o.2.1 iG (by decide) _ h rfl))
 replace fM := fB.get fM (fun hs => Or.elim hs (fun e => absurd e F6) (fun h => by (have := l9.ge bld5_o h; omega)))
 replace hF := hF.go fB (fun i h hs => Or.elim hs (fun e => by have := iF; omega) (fun h => by have := l9.ge bld5_o h; omega))
 replace bld5 := N22
 clear bld5_o
 refine Z.f 1 ?_
 refine Z.l iG ?_
 refine aj (gm (by kernel_rfl) _ _ _) ?_
 refine dW (fun g w' => ∃ (m : Nat) (v5 : Value), (g 45 = Z.i (m : Nat)) ∧ (m ≤ (x15).cs.length) ∧ (l9 w.heap.size w' b5 v5 (Lib.byteCells ((Gs.JK iK cur).data.toList ++ (Gs.its (l.take k)).flatMap (Gs.DF page) ++ (⟨#[32]⟩ ++ Gs.PS x15.at' ++ ⟨#[61]⟩ : ByteArray).data.toList ++ ((x15).cs.take m).flatMap (Gs.Na page)))) ∧ (Z.h w' b1 #[Z.u iK, .bool al, Z.i cur, .slice A n cp] 48) ∧ (Z.h w' b16 ((Gs.ie x15).toArray) 54) ∧ (Rd w' A (rows Gs.ie l)) ∧ (Gs.Cl w' l) ∧ (w'.heap[gT]? = some (.cells Gs.Ap eT fT)) ∧ (az no w w')) (fun g w' => (x15).cs.length - (RowKit.intOf (g 45)).toNat) ?_ (fun g5 wl5 hI => ?_)
 exact ⟨0, _, rfl, (by omega), (by simpa using bld5), ah, iG, rd, jB, fM, hF⟩
 obtain ⟨m, v5, g45, hm, bld5, ah, iG, rd, jB, fM, hF⟩ := hI
 rw [g45]
 have hsl := Gs.ahG (page := page) (xs := (x15).cs) (k := m) (hiw _ (List.mem_of_getElem? BF))
 have hcl := hcb _ (List.mem_of_getElem? BF)
 refine ay (lss _ _ _ _) (fun h23 => ?_) (fun h23 => ?_)
 refine aH ?_
 refine pK Gs.jf (by kernel_rfl) (by kernel_rfl) (jB.get BF) (by rfl) (by omega) (by omega) (fun x24 hx24 => ?_)
 simp only [Int.toNat_natCast] at hx24
 refine Z.n ((Gs.cv Gs.zc).toArray) (fun b25 Hy e25 aac _ iD => ?_)
 have VQ := bld5.apart e25
 have ab1 : b1 ≠ b25 := by have := au ah; omega
 have aad : b16 ≠ b25 := by have := au iG; omega
 have ab2 := rd.apart e25
 have aae := jB.apart e25
 have ab3 : gT ≠ b25 := by have := au fM; omega
 have ajP : w.heap.size ≤ b25 := by have := hF.size; omega
 refine Z.t 5 ((Gs.cv x24).toArray) (by (simp [Value.cells, Value.oneCell', Gs.cv, Gs.ie]; done)) aac (fun Pq aac _ jM => ?_)
 refine Z.b 5 ((Gs.cv x24).toArray) aac ?_
 refine aG (Oy (hiw _ (List.mem_of_getElem? BF) _ (List.mem_of_getElem? hx24))) (fun Ic ig => ?_)
 replace bld5 := ((bld5.ai iD).aA jM VQ).ai ig
 replace hF := ((hF.go0 iD).go1 jM ajP).go0 ig
 refine aJ (Ai bld5 (by simp only [List.length_append, Gs.DI, Gs.vN]; omega) (by have := Gs.aei (page := page) (hiw _ (List.mem_of_getElem? BF) _ (List.mem_of_getElem? hx24)); omega) (by have := hF.size; omega)) (fun x28 PD D28 => ?_)
 obtain ⟨vb28, N28, jJ⟩ := D28
 have bld5_o := bld5
 replace rd := ((rd.ai iD).aA jM ab2).ai ig
 replace rd := rd.eH jJ (KR.elim .inl fun h1 => aab.imp_right fun h2 k hk hs => Or.elim hs (fun e => absurd e (h1 k hk)) (fun h => by have := h2 k hk; have := l9.ge bld5_o h; omega))
 replace jB := ((jB.ai iD).aA jM aae).ai ig
 replace jB := jB.eH jJ (Iy.elim .inl fun h1 => TE.imp_right fun h2 k hk hs => Or.elim hs (fun e => absurd e (h1 k hk)) (fun h => by have := h2 k hk; have := l9.ge bld5_o h; omega))
 replace ah := ig.ag (jM.ak (iD.ag ah) ab1)
 replace ah := jJ.get ah (fun hs => Or.elim hs (fun e => absurd e ik) (fun h => Own.aP bld5_o.2.1 ah (by decide) _ h rfl))
 replace iG := ig.ag (jM.ak (iD.ag iG) aad)
 replace iG := jJ.get iG (fun hs => Or.elim hs (fun e => absurd e (by omega)) (fun h => Own.aP bld5_o.2.1 iG (by decide) _ h rfl))
 replace fM := ig.ag (jM.ak (iD.ag fM) ab3)
 replace fM := jJ.get fM (fun hs => Or.elim hs (fun e => absurd e F6) (fun h => by (have := l9.ge bld5_o h; omega)))
 replace hF := hF.go jJ (fun i h hs => Or.elim hs (fun e => by have := iF; omega) (fun h => by have := l9.ge bld5_o h; omega))
 replace bld5 := N28
 clear bld5_o
 refine aj (dF _ (by omega)) ?_
 exact ⟨⟨m + 1, _, rfl, (by omega), (by rw [Gs.ab4 hx24, ← List.append_assoc]; exact bld5), ah, iG, rd, jB, fM, hF⟩, cnt_lt (by rfl) rfl (by omega)⟩
 refine aB ?_
 refine hJ3 _ _ ?_
 exact ⟨_, (by rw [Gs.ajQ BF, ← List.append_assoc, ← List.append_assoc]; rw [List.take_of_length_le (l := (x15).cs) (by omega)] at bld5; exact bld5), ah, rd, jB, fM, hF⟩
 obtain ⟨v5, bld5, ah, rd, jB, fM, hF⟩ := hI
 refine aj (dF _ (by omega)) ?_
 exact ⟨⟨k + 1, _, (by rfl), by omega, bld5, ah, rd, jB, fM, hF⟩, cnt_lt (by rfl) rfl (by omega)⟩
 refine aB ?_
 refine hJ1 _ _ ?_
 exact ⟨_, (by rw [List.take_of_length_le (by omega)] at bld5; exact bld5), hF⟩
 replace bld5 := bld5.ai dI
 replace hF := hF.go0 dI
 obtain ⟨v5, bld5, hF⟩ := hI
 have hfl := Gs.TF (page := page) hiw hat hcb l.length
 rw [List.take_length] at hfl
 refine aG (abl bld5 (by simp only [List.length_append, Gs.DI]; omega)) (fun Px jc => ?_)
 replace hF := hF.go jc (fun i h hs => by have := l9.ge bld5 hs; omega)
 exact ⟨by rw [Gs.ajR (show al = false from by assumption)], hF⟩
end Go.Proofs.YtjdoakbadehicaaGreatDoor
end
section
namespace Gs
open Go Go.Sh
def aI1 : Inb := ⟨125, false, 2, [(1, [⟨193, false, false, 0, 0⟩])]⟩
theorem ajS : sK [125, 64, 194, 17, 64, 193, 193] = .ok aI1 := by
 rw [ab6]
 have h : jh [17, 64, 193, 193] = .ok [(1, [⟨193, false, false, 0, 0⟩])] := (Gf (n := 6) (xs := [(1, [⟨193, false, false, 0, 0⟩])]) (by rfl)).1
 rw [h]; rfl
theorem amg : TD 37 aI1 = [69, 78, 84, 69, 82, 32, 64, 50, 32, 49, 61, 65] := by decide +kernel
theorem ab7 {l : List It} {L : List (Int × List Cell)} (h : its l = L) {p : Int → List Cell → Prop} (hp : ∀ y ∈ L, p y.1 y.2) : ∀ x ∈ l, p x.at' x.cs := fun x hx => hp (x.at', x.cs) (by rw [← h]; exact List.mem_map.2 ⟨x, hx, rfl⟩)
end Gs
end
section
namespace Go.Proofs.YtjdoakbadehicaaGreatDoor
open Go Go.Sh
set_option maxRecDepth 100000
set_option maxHeartbeats 2000000 in
theorem Di {gT : Nat} {eT : TypeId} {fT : Nat × Nat} {w : World} (hgT : Tryz.prog.globalNamed "internal/strconv.uint64pow10" = some gT) (fM : w.heap[gT]? = some (.cells Gs.Ap eT fT))  :
    oX 8 #[] w fun e w' => e = .returned (.bool true) ∧ az no w w' := by
 refine F8.calls ?_
 unfold F8
 have hgl := au fM
 have hF : az no w w := Fr.refl _ _ _
 refine aj (bz (l := [(0, 1), (1, 1)]) (z := #[Z.i 0, Z.i 0]) (by kernel_rfl) (by (simp [eP, splice, gq, Value.cells, Gs.cv, Gs.fv, Gs.ie]; rfl))) ?_
 refine aJ (yC (r := 1) (c := 6) (by decide)) (fun v1 w1 D1 => ?_)
 obtain ⟨bp, gp, rfl, gbp, af, ae, U1⟩ := D1
 rw [show (Gs.aU 1 6).toNat = 6 by decide] at af ae
 have Vf : gT ≠ bp := by have := au fM; omega
 have rD : w.heap.size ≤ bp := by have := hF.size; omega
 have Fh : ¬ aC _ gT := fun h => by have := (Own.ge ae h).1; have := au fM; omega
 replace ae := ae.mono (B' := w.heap.size) hF.size
 refine Z.e ?_
 refine Z.e ?_
 refine aj (v := .bool false) (ao1 (e := 91) (by kernel_rfl)) ?_
 refine aB ?_
 refine aj (bz (l := [(0, 1), (1, 1), (2, 1), (3, 1), (4, 1)]) (z := #[Z.u 0, .bool false, .bool false, Z.u 0, Z.u 0]) (cs := Gs.cv ⟨0, false, true, 0, 0⟩) (by kernel_rfl) (by rfl)) ?_
 refine aJ (jG af ae (by rfl) (i := 0) (x := (⟨0, false, true, 0, 0⟩ : Gs.Cell))) (fun v3 w3 D3 => ?_)
 obtain ⟨rfl, N3, U3⟩ := D3
 have aK := ae
 replace fM := U1.ag fM
 replace fM := U3.get fM Fh
 replace af := U3.get af (fun h => Own.aP aK af (by decide) _ h rfl)
 replace ae := N3
 replace hF := hF.go0 U1
 replace hF := hF.go U3 (fun i h hs => by (have := (Own.ge aK hs).1; omega))
 clear aK
 rw [show Gs.jo (List.replicate 6 Gs.zc) 0 (⟨0, false, true, 0, 0⟩ : Gs.Cell) = ([⟨0, false, true, 0, 0⟩, Gs.zc, Gs.zc, Gs.zc, Gs.zc, Gs.zc] : List Gs.Cell) by decide +kernel] at ae
 refine aJ (qR af ae (by rfl) (i := 1)) (fun v4 w4 D4 => ?_)
 obtain ⟨rfl, N4, U4⟩ := D4
 replace ae := ae.aA U4 (Own.aP ae (by assumption) (by decide))
 replace af := N4
 rw [if_pos (by decide)] at af
 refine aJ (QX af ae (by rfl) (x := 193) (by decide) (by decide) (by decide) (by unfold Gs.jq Gs.Cw; decide : Gs.jq ([⟨0, false, true, 0, 0⟩, Gs.zc, Gs.zc, Gs.zc, Gs.zc, Gs.zc] : List Gs.Cell)) (by decide) (by decide +kernel) (by decide +kernel) (by decide +kernel) (by decide +kernel)) (fun v5 w5 D5 => ?_)
 obtain ⟨rfl, M5, N5, U5⟩ := D5
 have aK := ae
 replace ae := N5
 replace fM := U4.ak fM Vf
 replace fM := U5.get fM (fun hs => Or.elim (show aC _ _ ∨ _ = _ from hs) Fh (fun hb => absurd hb Vf))
 replace af := M5
 replace hF := hF.go1 U4 rD
 replace hF := hF.go U5 (fun i h hs => Or.elim (show aC _ _ ∨ _ = _ from hs) (fun hs => by (have := (Own.ge aK hs).1; omega)) (fun hb => by (subst hb; omega)))
 clear aK
 rw [show Gs.pI (Gs.jo ([⟨0, false, true, 0, 0⟩, Gs.zc, Gs.zc, Gs.zc, Gs.zc, Gs.zc] : List Gs.Cell) 1 ⟨193, false, false, (Gs.bJ ([⟨0, false, true, 0, 0⟩, Gs.zc, Gs.zc, Gs.zc, Gs.zc, Gs.zc] : List Gs.Cell) 1).l, (Gs.bJ ([⟨0, false, true, 0, 0⟩, Gs.zc, Gs.zc, Gs.zc, Gs.zc, Gs.zc] : List Gs.Cell) 1).c⟩) 1 = ([⟨1, false, true, 0, 0⟩, ⟨193, false, false, 0, 0⟩, Gs.zc, Gs.zc, Gs.zc, Gs.zc] : List Gs.Cell) by decide +kernel] at ae
 rw [show ((1 : Int) + 1) % ((6 : Nat) : Int) = 2 by decide] at af
 refine aJ (Qk af ae (by rfl) (x := 125) (by decide) (by decide) (by decide) (by unfold Gs.jq Gs.Cw; decide : Gs.jq ([⟨1, false, true, 0, 0⟩, ⟨193, false, false, 0, 0⟩, Gs.zc, Gs.zc, Gs.zc, Gs.zc] : List Gs.Cell))) (fun v6 w6 D6 => ?_)
 obtain ⟨Jz, U6⟩ := D6
 rw [show Gs.readB ([⟨1, false, true, 0, 0⟩, ⟨193, false, false, 0, 0⟩, Gs.zc, Gs.zc, Gs.zc, Gs.zc] : List Gs.Cell) 2 125 = [125, 64, 194, 17, 64, 193, 193] by decide +kernel] at Jz
 obtain ⟨A22, c22, rfl, _⟩ := Jz.bC
 replace Jz := Jz.mono (B' := w.heap.size) hF.size
 refine aJ (MX (bs := [125, 64, 194, 17, 64, 193, 193]) Jz.xC rfl Jz.ade (by intro x hx; simp at hx; omega) (by decide)) (fun v7 w7 D7 => ?_)
 obtain ⟨q23, l23, A23, c23, hq23, hi23, rfl, sW, Q7, hw23, gA23, gC23, ha23, U7⟩ := D7
 rw [show Gs.KE [125, 64, 194, 17, 64, 193, 193] = Gs.aI1 from by unfold Gs.KE; rw [Gs.ajS]; try rfl] at hq23
 subst hq23
 rw [show Gs.Yj (Gs.sK [125, 64, 194, 17, 64, 193, 193]) = 0 from by rw [Gs.ajS]; rfl]
 replace hi23 : Gs.its l23 = (Gs.aI1 : Gs.Inb).items := hi23.symm
 refine Z.e ?_
 refine Z.e ?_
 refine Z.n (#[Z.u 0, .bool false, Z.i 0, .slice none 0 0]) (fun b8 w8 e8 dG _ U8 => ?_)
 replace fM := U7.ag (U6.ag fM)
 have afi : gT ≠ b8 := by have := au fM; omega
 have aa4 := sW.apart e8
 have Wy := Q7.apart e8
 replace hF := (hF.go0 U6).go0 U7
 have rq : w.heap.size ≤ b8 := by have := hF.size; omega
 refine Z.t 4 (#[Z.u 125, .bool false, Z.i 2, .slice A23 l23.length c23]) (by (simp [Value.cells, Value.oneCell', Gs.cv, Gs.fv, Gs.ie]; done)) dG (fun w9 dG _ U9 => ?_)
 refine zx (dC _ _ _ _ _) (by rfl) ?_
 refine bD (bD ?_)
 refine zx (dC _ _ _ _ _) (by rfl) ?_
 refine bu (bD ?_)
 refine Z.b 4 (#[Z.u 125, .bool false, Z.i 2, .slice A23 l23.length c23]) dG ?_
 refine bD ?_
 replace sW := (sW.ai U8).aA U9 aa4
 replace Q7 := (Q7.ai U8).aA U9 Wy
 replace fM := U9.ak (U8.ag fM) afi
 refine aG (abY (page := 37) sW rfl Q7 hgT fM (by decide) (by decide) hw23 (Gs.ab7 hi23 (p := fun p _ => -9223372036854775808 ≤ p ∧ p ≤ 9223372036854775807) (by decide)) (by have := congrArg List.length hi23; rw [Gs.EP] at this; rw [this]; decide) (Gs.ab7 hi23 (p := fun _ c => c.length ≤ 100000) (by decide))) (fun w10 aT => ?_)
 rw [hi23, show Gs.TD 37 ⟨125, false, 2, Gs.aI1.items⟩ = _ from Gs.amg]
 refine bD ?_
 refine zx (eqS _ _ _ _) (by rfl) ?_
 refine bu (bD ?_)
 refine aG (DZ (page := 37) (b := 193)) (fun oz bK => ?_)
 refine bD ?_
 refine zx (dC _ _ _ _ _) (by rfl) ?_
 refine bu ?_
 replace hF := (((hF.go0 U8).go1 U9 rq).go0 aT).go0 bK
 exact ⟨rfl, hF⟩
theorem NU {r c : Int} {ds : List Gs.lL} {dA : Option Addr} {dc : Nat} {gT : Nat} {eT : TypeId} {fT : Nat × Nat} {w : World} (hgT : Tryz.prog.globalNamed "internal/strconv.uint64pow10" = some gT) (fM : w.heap[gT]? = some (.cells Gs.Ap eT fT)) (lT : Rd w dA (rows Gs.de ds)) (lU : Gs.ut w ds) (hdw : Gs.MC ds) (hdn : ds.length ≤ maxLen) (hok : ¬ Gs.Ei r c ds) {x : Int} (hxb : 0 ≤ x ∧ x ≤ 255)  :
    oX 4 #[.agg #[Z.i r, Z.i c], .slice dA ds.length dc, Z.u x] w fun e w' => e = .returned (.bool true) ∧ az no w w' := by
 refine F4.calls ?_
 unfold F4
 have hF : az no w w := Fr.refl _ _ _
 refine Z.x (#[Z.i r, Z.i c]) (fun b1 w1 e1 ah _ U1 => ?_)
 replace fM := U1.ag fM
 refine OV (Di hgT fM) (rfl) (fun w2 U2 => ?_)
 refine aj (lX) ?_
 refine aB ?_
 replace ah := U2.ag ah
 refine Z.b 2 (#[Z.i r, Z.i c]) ah ?_
 replace lT := (lT.ai U1).ai U2
 replace lU := (lU.ai U1).ai U2
 refine aG (aaK lT lU hdw hdn hok) (fun w3 U3 => ?_)
 refine Z.e ?_
 refine Z.e ?_
 refine Z.e ?_
 refine aj (mV) ?_
 refine bI (bI (bI (bu (aH ?_))))
 replace hF := ((hF.go0 U1).go0 U2).go0 U3
 exact ⟨rfl, hF⟩
set_option maxHeartbeats 4000000 in
theorem NV {r c : Int} {ds : List Gs.lL} {dA : Option Addr} {dc : Nat} {gT : Nat} {eT : TypeId} {fT : Nat × Nat} {w : World} (hgT : Tryz.prog.globalNamed "internal/strconv.uint64pow10" = some gT) (fM : w.heap[gT]? = some (.cells Gs.Ap eT fT)) (lT : Rd w dA (rows Gs.de ds)) (lU : Gs.ut w ds) (hdw : Gs.MC ds) (hdn : ds.length ≤ maxLen) (hok : Gs.Ei r c ds) {x : Int} (hxb : 0 ≤ x ∧ x ≤ 255)  :
    oX 4 #[.agg #[Z.i r, Z.i c], .slice dA ds.length dc, Z.u x] w fun e w' => e = .returned (.bool true) ∧ az no w w' := by
 refine F4.calls ?_
 unfold F4
 have hF : az no w w := Fr.refl _ _ _
 refine Z.x (#[Z.i r, Z.i c]) (fun b1 w1 e1 ah _ U1 => ?_)
 replace fM := U1.ag fM
 refine OV (Di hgT fM) (rfl) (fun w2 U2 => ?_)
 refine aj (lX) ?_
 refine aB ?_
 replace ah := U2.ag ah
 refine Z.b 2 (#[Z.i r, Z.i c]) ah ?_
 replace lT := (lT.ai U1).ai U2
 replace lU := (lU.ai U1).ai U2
 refine aJ (aaL lT lU hdw hdn hok) (fun v3 w3 D3 => ?_)
 obtain ⟨s, bs, bk, bp, A, n, cp, st, why, tn, last, ins, rfl, gbs, gbk, gbp, hst, hS, hone, hn60, aV, aI, af, ae, U3⟩ := D3
 have hW := hS.2
 obtain ⟨hn, hcw, hcu, hp, hN, hb⟩ := id hW
 replace hF := (hF.go0 U1).go0 U2
 replace ae := ae.mono (B' := w.heap.size) hF.size
 refine Z.e ?_
 refine Z.e ?_
 refine Z.e ?_
 refine aj (lX) ?_
 refine bP (bP ?_)
 refine dS (zu hxb) (fun w4 U4 h4 => ?_) (fun w4 U4 h4 => ?_)
 simp only [Z.d, Z.c] at h4
 refine bP ?_
 refine aj (lX) ?_
 refine bG (aB ?_)
 replace aI := U4.ag aI
 refine aG (zC aI) (fun w5 U5 => ?_)
 have hib := Gs.acg (cs := s.cs) (cur := s.cur) (x := x) (by omega) (by omega)
 have hrl := Gs.acj (cs := s.cs) (cur := s.cur) (x := x) (by omega)
 replace ae := (ae.ai U4).ai U5
 replace af := U5.ag (U4.ag af)
 refine aJ (Qk af ae hn (x := x) hp hN hb hcw) (fun v6 w6 D6 => ?_)
 obtain ⟨NW, U6⟩ := D6
 obtain ⟨A39, c39, rfl, _⟩ := NW.bC
 replace hF := ((hF.go0 U3).go0 U4).go0 U5
 replace NW := NW.mono (B' := w.heap.size) hF.size
 refine aJ (MX (bs := (Gs.readB s.cs s.cur x)) NW.xC rfl NW.ade (Gs.aeq hcw hxb) (by omega)) (fun v7 w7 D7 => ?_)
 obtain ⟨q40, l40, A40, c40, hq40, hi40, rfl, iT, gY, hw40, gA40, gC40, ha40, U7⟩ := D7
 replace hq40 : q40 = Gs.yA s.cs s.cur x := by rw [hq40]; unfold Gs.KE; rw [hib]
 rw [show Gs.Yj (Gs.sK (Gs.readB s.cs s.cur x)) = 0 by rw [hib]; rfl]
 have hqa : q40.iK = x := by rw [hq40, Gs.ach]
 have hql : q40.alone = decide (x = 109 ∨ x = 108 ∨ x = 110 ∨ x = 107) := by rw [hq40, Gs.aeo]
 refine Z.e ?_
 refine Z.e ?_
 refine Z.n (#[Z.u 0, .bool false, Z.i 0, .slice none 0 0]) (fun b8 w8 e8 dG _ U8 => ?_)
 replace af := U7.ag (U6.ag af)
 have pO : bp ≠ b8 := by have := au af; omega
 replace ae := (ae.ai U6).ai U7
 have l7 := ae.apart e8
 have NY := iT.apart e8
 have J8 := gY.apart e8
 replace hF := (hF.go0 U6).go0 U7
 have rq : w.heap.size ≤ b8 := by have := hF.size; omega
 refine Z.t 4 (#[Z.u q40.iK, .bool q40.alone, Z.i q40.cur, .slice A40 l40.length c40]) (by (simp [Value.cells, Value.oneCell', Gs.cv, Gs.fv, Gs.ie, Gs.pe, Gs.oe, Gs.bT, Gs.fe, Gs.fC, Gs.ce, Gs.dX, Gs.re, Gs.de, Gs.ie]; done)) dG (fun w9 dG _ U9 => ?_)
 refine dQ (S := no) (fun w10 aT => ?_)
 refine rH (fun w' hw' => (kL _ _ _ _ _)) (fun h => h rfl) ?_
 refine bF ?_
 refine Z.g 0 ?_
 refine bF ?_
 replace dG := aT.ag dG
 refine Z.m dG ?_
 refine bF (eQ (bF ?_))
 refine rH (fun w' hw' => (kL _ _ _ _ _)) (fun h => h hqa) ?_
 refine fP (bF ?_)
 refine Z.g 1 ?_
 refine bF ?_
 refine Z.m dG ?_
 refine bF (eQ (bF ?_))
 refine fU (fun w' hw' => Ny) ?_
 refine bF ?_
 refine rH (fun w' hw' => (UN _ _ (by kernel_rfl) _ _)) (fun h => h hql) ?_
 refine fP ?_
 refine aF (fun w12 cZ => ?_)
 refine aB ?_
 refine Z.f 1 ?_
 replace dG := cZ.ag dG
 refine mQ (kK (by kernel_rfl) dG (by rfl)) (fun h13 => ?_) (fun h13 => ?_)
 refine aH ?_
 replace hF := (((hF.go0 U8).go1 U9 rq).go0 aT).go0 cZ
 exact ⟨rfl, hF⟩
 refine aB ?_
 replace ae := (((ae.ai U8).aA U9 l7).ai aT).ai cZ
 replace af := cZ.ag (aT.ag (U9.ak (U8.ag af) pO))
 refine aJ (Un af ae hn hp hN hb hcw) (fun v15 uN D15 => ?_)
 obtain ⟨l61, A61, c61, rfl, hw61, gu, eX, gA61, gC61, dH⟩ := D15
 have hqf := Gs.ahR (cs := s.cs) (cur := s.cur) (x := x) (by rw [← hq40]; assumption)
 rw [← hq40] at hqf
 have hW : Gs.I7 s.cs l40 l61 := ⟨hi40.symm.trans hqf.2, hw61⟩
 have hWl := hW.len
 have hl40 := Gs.aer s.cs
 rw [← hW.a, Gs.EP] at hl40
 refine dQ (S := no) (fun w16 bZ => ?_)
 refine Z.g 2 ?_
 replace dG := bZ.ag (dH.ag dG)
 refine Z.m dG ?_
 replace ae := (ae.ai dH).ai bZ
 replace af := bZ.ag (dH.ag af)
 refine fU (fun w' hw' => by have af := hw'.ag af; have ae := ae.ai hw'; exact gz af ae hn) ?_
 refine rH (fun w' hw' => (kL _ _ _ _ _)) (fun h => h hqf.1) ?_
 refine bF ?_
 refine Z.g 3 ?_
 refine bF ?_
 refine Z.m dG ?_
 refine bF ?_
 refine bi (fun w' hw' => (gm (by kernel_rfl) _ _ _)) ?_
 refine bF (eQ (bF ?_))
 refine bi (fun w' hw' => (gm (by kernel_rfl) _ _ _)) ?_
 refine bF ?_
 refine rH (fun w' hw' => (kL _ _ _ _ _)) (fun h => h (by omega)) ?_
 refine fP ?_
 refine aF (fun uY dE => ?_)
 refine aB ?_
 refine bH (fun g w' => (az no w w')) (fun J1 hJ1 => ?_) (fun gJ1 jX hI => ?_)
 refine Z.f 3 ?_
 replace dG := dE.ag dG
 refine Z.l dG ?_
 refine aj (gm (by kernel_rfl) _ _ _) ?_
 refine dW (fun g w' => ∃ (k : Nat), (g 78 = Z.i (k : Int)) ∧ (k ≤ l40.length) ∧ (Z.h w' b8 #[Z.u q40.iK, .bool q40.alone, Z.i q40.cur, .slice A40 l40.length c40] 48) ∧ (Rd w' A40 (rows Gs.ie l40)) ∧ (Gs.Cl w' l40) ∧ (Rd w' A61 (rows Gs.ie l61)) ∧ (Gs.Cl w' l61) ∧ (az no w w')) (fun g w' => l40.length - (RowKit.intOf (g 78)).toNat) ?_ (fun g2 qj hI => ?_)
 replace iT := ((((((iT.ai U8).aA U9 NY).ai aT).ai cZ).ai dH).ai bZ).ai dE
 replace gY := ((((((gY.ai U8).aA U9 J8).ai aT).ai cZ).ai dH).ai bZ).ai dE
 replace hF := ((((((hF.go0 U8).go1 U9 rq).go0 aT).go0 cZ).go0 dH).go0 bZ).go0 dE
 replace gu := (gu.ai bZ).ai dE
 replace eX := (eX.ai bZ).ai dE
 exact ⟨0, (by rfl), Nat.zero_le _, dG, iT, gY, gu, eX, hF⟩
 replace iT := ((((((iT.ai U8).aA U9 NY).ai aT).ai cZ).ai dH).ai bZ).ai dE
 replace gY := ((((((gY.ai U8).aA U9 J8).ai aT).ai cZ).ai dH).ai bZ).ai dE
 replace hF := ((((((hF.go0 U8).go1 U9 rq).go0 aT).go0 cZ).go0 dH).go0 bZ).go0 dE
 replace gu := (gu.ai bZ).ai dE
 replace eX := (eX.ai bZ).ai dE
 obtain ⟨k, g78, hk, dG, iT, gY, gu, eX, hF⟩ := hI
 rw [g78]
 refine ay (lss _ _ _ _) (fun h19 => ?_) (fun h19 => ?_)
 refine aH ?_
 refine bH (fun g w' => (Z.h w' b8 #[Z.u q40.iK, .bool q40.alone, Z.i q40.cur, .slice A40 l40.length c40] 48) ∧ (Rd w' A40 (rows Gs.ie l40)) ∧ (Gs.Cl w' l40) ∧ (Rd w' A61 (rows Gs.ie l61)) ∧ (Gs.Cl w' l61) ∧ (az no w w')) (fun J3 hJ3 => ?_) (fun gJ3 Ha hI => ?_)
 refine pK Gs.kH (by kernel_rfl) (by kernel_rfl) iT (by rfl) (by omega) (by omega) (fun x20 nU => ?_)
 simp only [Int.toNat_natCast] at nU
 have hxl : (x20).cs.length ≤ s.cs.length := Gs.ahS (y := ((x20).at', (x20).cs)) (hW.a ▸ List.mem_of_getElem? (Gs.BC nU))
 refine Z.n (#[Z.i 0, .slice none 0 0]) (fun b21 BD e21 rM _ dL => ?_)
 have Ah : b8 ≠ b21 := by have := au dG; omega
 have wX := iT.apart e21
 have tq := gY.apart e21
 have WA := gu.apart e21
 have tu := eX.apart e21
 have Fj : w.heap.size ≤ b21 := by have := hF.size; omega
 refine Z.t 2 ((Gs.ie x20).toArray) (by (simp [Value.cells, Value.oneCell', Gs.cv, Gs.fv, Gs.ie, Gs.pe, Gs.oe, Gs.bT, Gs.fe, Gs.fC, Gs.ce, Gs.dX, Gs.re, Gs.de, Gs.ie]; done)) rM (fun ED rM _ fB => ?_)
 refine dQ (S := no) (fun AB eF => ?_)
 refine Z.g 0 ?_
 replace rM := eF.ag rM
 refine Z.m rM ?_
 replace gu := ((gu.ai dL).aA fB WA).ai eF
 refine iH (off := 0) Gs.kH (fun x => Z.i x.at') (fun _ => rfl) (by decide) (by kernel_rfl) (by kernel_rfl) (by kernel_rfl) (fun w' hw' => gu.ai hw') (Fr.refl _ _ _) (by rfl) (by omega) (by omega) (fun x24 hx24 => ?_)
 simp only [Int.toNat_natCast] at hx24
 refine rH (fun w' hw' => (kL _ _ _ _ _)) (fun h => h (hW.eq nU hx24).1) ?_
 refine bF ?_
 refine Z.g 1 ?_
 refine bF ?_
 refine Z.m rM ?_
 refine bF ?_
 refine bi (fun w' hw' => (gm (by kernel_rfl) _ _ _)) ?_
 refine bF (eQ (bF (eQ (bF ?_))))
 refine iH (off := 1) Gs.kH (fun x => .slice x.A x.cs.length x.cp) (fun _ => rfl) (by decide) (by kernel_rfl) (by kernel_rfl) (by kernel_rfl) (fun w' hw' => gu.ai hw') (Fr.refl _ _ _) (by rfl) (by omega) (by omega) (fun x25 hx25 => ?_)
 simp only [Int.toNat_natCast] at hx25
 refine bF ?_
 refine bi (fun w' hw' => (gm (by kernel_rfl) _ _ _)) ?_
 refine bF ?_
 refine rH (fun w' hw' => (kL _ _ _ _ _)) (fun h => h (by rw [(hW.eq nU hx25).2, List.length_map])) ?_
 refine fP (bF (eQ (bF ?_)))
 refine jR (fun w' hw' => (gtr _ _ _ _)) (fun h26 => ?_) (fun h26 => ?_)
 refine bF (eQ (gI ?_))
 refine Z.g 0 ?_
 refine gI ?_
 refine Z.m rM ?_
 refine gI ?_
 refine jR (fun w' hw' => (kL _ _ _ _ _)) (fun h27 => ?_) (fun h27 => ?_)
 refine bF (jS (bF (eQ (gI ?_))))
 refine Z.g 0 ?_
 refine gI ?_
 refine Z.m rM ?_
 refine gI ?_
 refine Z.g 3 ?_
 refine gI ?_
 replace dG := eF.ag (fB.ak (dL.ag dG) Ah)
 refine Z.m dG ?_
 refine gI (eQ (gI ?_))
 refine bi (fun w' hw' => (vZ _ (by omega))) ?_
 refine gI ?_
 replace iT := ((iT.ai dL).aA fB wX).ai eF
 refine iH (off := 0) Gs.kH (fun x => Z.i x.at') (fun _ => rfl) (by decide) (by kernel_rfl) (by kernel_rfl) (by kernel_rfl) (fun w' hw' => iT.ai hw') (Fr.refl _ _ _) (by rfl) (by omega) (by omega) (fun x28 hx28 => ?_)
 refine gI ?_
 refine rH (fun w' hw' => (leq _ _ _ _)) (fun h => (hW.ord nU (by omega) hx28).elim (fun e => absurd e (by assumption)) (fun e => by omega)) ?_
 refine bF (jS (fP ?_))
 refine aF (fun Px jc => ?_)
 refine aB ?_
 refine Z.f 1 ?_
 replace rM := jc.ag rM
 refine Z.l rM ?_
 refine aj (gm (by kernel_rfl) _ _ _) ?_
 refine dW (fun g w' => ∃ (k : Nat), (g 127 = Z.i (k : Int)) ∧ (k ≤ (x20).cs.length) ∧ (Z.h w' b8 #[Z.u q40.iK, .bool q40.alone, Z.i q40.cur, .slice A40 l40.length c40] 48) ∧ (Rd w' A40 (rows Gs.ie l40)) ∧ (Gs.Cl w' l40) ∧ (Rd w' A61 (rows Gs.ie l61)) ∧ (Gs.Cl w' l61) ∧ (az no w w')) (fun g w' => (x20).cs.length - (RowKit.intOf (g 127)).toNat) ?_ (fun g4 wl4 hI => ?_)
 replace gY := (((gY.ai dL).aA fB tq).ai eF).ai jc
 replace eX := (((eX.ai dL).aA fB tu).ai eF).ai jc
 replace hF := (((hF.go0 dL).go1 fB Fj).go0 eF).go0 jc
 replace iT := iT.ai jc
 replace gu := gu.ai jc
 replace dG := jc.ag dG
 exact ⟨0, (by rfl), Nat.zero_le _, dG, iT, gY, gu, eX, hF⟩
 replace gY := (((gY.ai dL).aA fB tq).ai eF).ai jc
 replace eX := (((eX.ai dL).aA fB tu).ai eF).ai jc
 replace hF := (((hF.go0 dL).go1 fB Fj).go0 eF).go0 jc
 replace iT := iT.ai jc
 replace gu := gu.ai jc
 replace dG := jc.ag dG
 obtain ⟨k, g127, hk, dG, iT, gY, gu, eX, hF⟩ := hI
 rw [g127]
 refine ay (lss _ _ _ _) (fun h30 => ?_) (fun h30 => ?_)
 refine aH ?_
 refine pK Gs.jf (by kernel_rfl) (by kernel_rfl) (gY.get nU) (by rfl) (by omega) (by omega) (fun x31 hx31 => ?_)
 simp only [Int.toNat_natCast] at hx31
 refine Z.n ((Gs.cv Gs.zc).toArray) (fun b32 w32 e32 zK _ kw => ?_)
 have QB : b8 ≠ b32 := by have := au dG; omega
 have J9 := iT.apart e32
 have Jd := gY.apart e32
 have WB := gu.apart e32
 have Vg := eX.apart e32
 have Uo : w.heap.size ≤ b32 := by have := hF.size; omega
 refine Z.t 5 ((Gs.cv x31).toArray) (by (simp [Value.cells, Value.oneCell', Gs.cv, Gs.fv, Gs.ie, Gs.pe, Gs.oe, Gs.bT, Gs.fe, Gs.fC, Gs.ce, Gs.dX, Gs.re, Gs.de, Gs.ie]; done)) zK (fun w33 zK _ nX => ?_)
 refine dQ (S := no) (fun Rl lN => ?_)
 refine Z.g 0 ?_
 replace zK := lN.ag zK
 refine Z.m zK ?_
 replace gu := ((gu.ai kw).aA nX WB).ai lN
 refine iH (off := 1) Gs.kH (fun x => .slice x.A x.cs.length x.cp) (fun _ => rfl) (by decide) (by kernel_rfl) (by kernel_rfl) (by kernel_rfl) (fun w' hw' => gu.ai hw') (Fr.refl _ _ _) (by rfl) (by omega) (by omega) (fun x35 Ph => ?_)
 simp only [Int.toNat_natCast] at Ph
 have hyl138 : (x35).cs.length = (x20).cs.length := by rw [(hW.eq nU Ph).2, List.length_map]
 replace eX := ((eX.ai kw).aA nX Vg).ai lN
 refine iH (off := 0) Gs.jf (fun x => Z.u x.b) (fun _ => rfl) (by decide) (by kernel_rfl) (by kernel_rfl) (by kernel_rfl) (fun w' hw' => (eX.get Ph).ai hw') (Fr.refl _ _ _) (by rfl) (by omega) (by omega) (fun x36 aa5 => ?_)
 simp only [Int.toNat_natCast] at aa5
 refine jR (fun w' hw' => (kL _ _ _ _ _)) (fun h37 => ?_) (fun h37 => ?_)
 refine gI (eQ (gI (eQ (gI ?_))))
 refine iH (off := 1) Gs.kH (fun x => .slice x.A x.cs.length x.cp) (fun _ => rfl) (by decide) (by kernel_rfl) (by kernel_rfl) (by kernel_rfl) (fun w' hw' => gu.ai hw') (Fr.refl _ _ _) (by rfl) (by omega) (by omega) (fun x38 hx38 => ?_)
 simp only [Int.toNat_natCast] at hx38
 have hyl149 : (x38).cs.length = (x20).cs.length := by rw [(hW.eq nU hx38).2, List.length_map]
 refine gI (eQ (gI ?_))
 refine iH (off := 0) Gs.jf (fun x => Z.u x.b) (fun _ => rfl) (by decide) (by kernel_rfl) (by kernel_rfl) (by kernel_rfl) (fun w' hw' => (eX.get hx38).ai hw') (Fr.refl _ _ _) (by rfl) (by omega) (by omega) (fun x39 hx39 => ?_)
 simp only [Int.toNat_natCast] at hx39
 refine gI ?_
 refine rH (fun w' hw' => (geq _ _ _ _)) (fun h => by have ey := Option.some.inj (Ph.symm.trans hx38); rw [← ey] at hx39; have ec := Option.some.inj (aa5.symm.trans hx39); have e4 := Gs.O3 (hW.st Ph aa5) (by rw [ec]; omega); exact absurd (show (x31).b = (x36).b by rw [hW.cell nU Ph hx31 aa5]; exact e4) (by assumption)) ?_
 refine jS (bF ?_)
 refine Z.g 1 ?_
 refine bF ?_
 refine Z.m zK ?_
 refine bF (eQ (bF (eQ (bF ?_))))
 refine iH (off := 1) Gs.kH (fun x => .slice x.A x.cs.length x.cp) (fun _ => rfl) (by decide) (by kernel_rfl) (by kernel_rfl) (by kernel_rfl) (fun w' hw' => gu.ai hw') (Fr.refl _ _ _) (by rfl) (by omega) (by omega) (fun x40 Vh => ?_)
 simp only [Int.toNat_natCast] at Vh
 have hyl163 : (x40).cs.length = (x20).cs.length := by rw [(hW.eq nU Vh).2, List.length_map]
 refine bF (eQ (bF ?_))
 refine iH (off := 1) Gs.jf (fun x => .bool x.ge) (fun _ => rfl) (by decide) (by kernel_rfl) (by kernel_rfl) (by kernel_rfl) (fun w' hw' => (eX.get Vh).ai hw') (Fr.refl _ _ _) (by rfl) (by omega) (by omega) (fun x41 Rn => ?_)
 simp only [Int.toNat_natCast] at Rn
 refine bF ?_
 refine rH (fun w' hw' => (UN _ _ (by kernel_rfl) _ _)) (fun h => h (by rw [hW.cell nU Vh hx31 Rn]; exact Gs.zq (hW.st Vh Rn))) ?_
 refine fP ?_
 refine aF (fun w42 wL => ?_)
 refine aB ?_
 refine aj (dF _ (by omega)) ?_
 replace iT := (((iT.ai kw).aA nX J9).ai lN).ai wL
 replace gY := (((gY.ai kw).aA nX Jd).ai lN).ai wL
 replace dG := wL.ag (lN.ag (nX.ak (kw.ag dG) QB))
 replace hF := (((hF.go0 kw).go1 nX Uo).go0 lN).go0 wL
 replace gu := gu.ai wL
 replace eX := eX.ai wL
 exact ⟨⟨k + 1, (by rfl), by omega, dG, iT, gY, gu, eX, hF⟩, cnt_lt (by rfl) rfl (by omega)⟩
 refine dM (dM (dM (dM (dM (dM (dM (dM (dM (dM (fP (bF ?_)))))))))))
 refine Z.g 1 ?_
 refine bF ?_
 refine Z.m zK ?_
 refine bF (eQ (bF (eQ (bF ?_))))
 refine iH (off := 1) Gs.kH (fun x => .slice x.A x.cs.length x.cp) (fun _ => rfl) (by decide) (by kernel_rfl) (by kernel_rfl) (by kernel_rfl) (fun w' hw' => gu.ai hw') (Fr.refl _ _ _) (by rfl) (by omega) (by omega) (fun x43 yO => ?_)
 simp only [Int.toNat_natCast] at yO
 have hyl163 : (x43).cs.length = (x20).cs.length := by rw [(hW.eq nU yO).2, List.length_map]
 refine bF (eQ (bF ?_))
 refine iH (off := 1) Gs.jf (fun x => .bool x.ge) (fun _ => rfl) (by decide) (by kernel_rfl) (by kernel_rfl) (by kernel_rfl) (fun w' hw' => (eX.get yO).ai hw') (Fr.refl _ _ _) (by rfl) (by omega) (by omega) (fun x44 afk => ?_)
 simp only [Int.toNat_natCast] at afk
 refine bF ?_
 refine rH (fun w' hw' => (UN _ _ (by kernel_rfl) _ _)) (fun h => h (by rw [hW.cell nU yO hx31 afk]; exact Gs.zq (hW.st yO afk))) ?_
 refine fP ?_
 refine aF (fun w45 CQ => ?_)
 refine aB ?_
 refine aj (dF _ (by omega)) ?_
 replace iT := (((iT.ai kw).aA nX J9).ai lN).ai CQ
 replace gY := (((gY.ai kw).aA nX Jd).ai lN).ai CQ
 replace dG := CQ.ag (lN.ag (nX.ak (kw.ag dG) QB))
 replace hF := (((hF.go0 kw).go1 nX Uo).go0 lN).go0 CQ
 replace gu := gu.ai CQ
 replace eX := eX.ai CQ
 exact ⟨⟨k + 1, (by rfl), by omega, dG, iT, gY, gu, eX, hF⟩, cnt_lt (by rfl) rfl (by omega)⟩
 refine aB ?_
 refine hJ3 _ _ ?_
 exact ⟨dG, iT, gY, gu, eX, hF⟩
 refine bF (jS (bF (eQ (dM (dM (dM (dM (dM (dM (dM (dM (dM (dM (bF (fP (fP ?_))))))))))))))))
 refine aF (fun w46 zT => ?_)
 refine aB ?_
 refine Z.f 1 ?_
 replace rM := zT.ag rM
 refine Z.l rM ?_
 refine aj (gm (by kernel_rfl) _ _ _) ?_
 refine dW (fun g w' => ∃ (k : Nat), (g 127 = Z.i (k : Int)) ∧ (k ≤ (x20).cs.length) ∧ (Z.h w' b8 #[Z.u q40.iK, .bool q40.alone, Z.i q40.cur, .slice A40 l40.length c40] 48) ∧ (Rd w' A40 (rows Gs.ie l40)) ∧ (Gs.Cl w' l40) ∧ (Rd w' A61 (rows Gs.ie l61)) ∧ (Gs.Cl w' l61) ∧ (az no w w')) (fun g w' => (x20).cs.length - (RowKit.intOf (g 127)).toNat) ?_ (fun g5 wl5 hI => ?_)
 replace iT := (((iT.ai dL).aA fB wX).ai eF).ai zT
 replace gY := (((gY.ai dL).aA fB tq).ai eF).ai zT
 replace eX := (((eX.ai dL).aA fB tu).ai eF).ai zT
 replace dG := zT.ag (eF.ag (fB.ak (dL.ag dG) Ah))
 replace hF := (((hF.go0 dL).go1 fB Fj).go0 eF).go0 zT
 replace gu := gu.ai zT
 exact ⟨0, (by rfl), Nat.zero_le _, dG, iT, gY, gu, eX, hF⟩
 replace iT := (((iT.ai dL).aA fB wX).ai eF).ai zT
 replace gY := (((gY.ai dL).aA fB tq).ai eF).ai zT
 replace eX := (((eX.ai dL).aA fB tu).ai eF).ai zT
 replace dG := zT.ag (eF.ag (fB.ak (dL.ag dG) Ah))
 replace hF := (((hF.go0 dL).go1 fB Fj).go0 eF).go0 zT
 replace gu := gu.ai zT
 obtain ⟨k, g127, hk, dG, iT, gY, gu, eX, hF⟩ := hI
 rw [g127]
 refine ay (lss _ _ _ _) (fun h47 => ?_) (fun h47 => ?_)
 refine aH ?_
 refine pK Gs.jf (by kernel_rfl) (by kernel_rfl) (gY.get nU) (by rfl) (by omega) (by omega) (fun x48 aa6 => ?_)
 simp only [Int.toNat_natCast] at aa6
 refine Z.n ((Gs.cv Gs.zc).toArray) (fun b49 w49 e49 GY _ wK => ?_)
 have QC : b8 ≠ b49 := by have := au dG; omega
 have Ko := iT.apart e49
 have Je := gY.apart e49
 have WC := gu.apart e49
 have Vj := eX.apart e49
 have adu : w.heap.size ≤ b49 := by have := hF.size; omega
 refine Z.t 5 ((Gs.cv x48).toArray) (by (simp [Value.cells, Value.oneCell', Gs.cv, Gs.fv, Gs.ie, Gs.pe, Gs.oe, Gs.bT, Gs.fe, Gs.fC, Gs.ce, Gs.dX, Gs.re, Gs.de, Gs.ie]; done)) GY (fun w50 GY _ Kq => ?_)
 refine dQ (S := no) (fun w51 Jf => ?_)
 refine Z.g 0 ?_
 replace GY := Jf.ag GY
 refine Z.m GY ?_
 replace gu := ((gu.ai wK).aA Kq WC).ai Jf
 refine iH (off := 1) Gs.kH (fun x => .slice x.A x.cs.length x.cp) (fun _ => rfl) (by decide) (by kernel_rfl) (by kernel_rfl) (by kernel_rfl) (fun w' hw' => gu.ai hw') (Fr.refl _ _ _) (by rfl) (by omega) (by omega) (fun x52 Pi => ?_)
 simp only [Int.toNat_natCast] at Pi
 have hyl138 : (x52).cs.length = (x20).cs.length := by rw [(hW.eq nU Pi).2, List.length_map]
 replace eX := ((eX.ai wK).aA Kq Vj).ai Jf
 refine iH (off := 0) Gs.jf (fun x => Z.u x.b) (fun _ => rfl) (by decide) (by kernel_rfl) (by kernel_rfl) (by kernel_rfl) (fun w' hw' => (eX.get Pi).ai hw') (Fr.refl _ _ _) (by rfl) (by omega) (by omega) (fun x53 aa7 => ?_)
 simp only [Int.toNat_natCast] at aa7
 refine jR (fun w' hw' => (kL _ _ _ _ _)) (fun h54 => ?_) (fun h54 => ?_)
 refine gI (eQ (gI (eQ (gI ?_))))
 refine iH (off := 1) Gs.kH (fun x => .slice x.A x.cs.length x.cp) (fun _ => rfl) (by decide) (by kernel_rfl) (by kernel_rfl) (by kernel_rfl) (fun w' hw' => gu.ai hw') (Fr.refl _ _ _) (by rfl) (by omega) (by omega) (fun x55 aa8 => ?_)
 simp only [Int.toNat_natCast] at aa8
 have hyl149 : (x55).cs.length = (x20).cs.length := by rw [(hW.eq nU aa8).2, List.length_map]
 refine gI (eQ (gI ?_))
 refine iH (off := 0) Gs.jf (fun x => Z.u x.b) (fun _ => rfl) (by decide) (by kernel_rfl) (by kernel_rfl) (by kernel_rfl) (fun w' hw' => (eX.get aa8).ai hw') (Fr.refl _ _ _) (by rfl) (by omega) (by omega) (fun x56 afl => ?_)
 simp only [Int.toNat_natCast] at afl
 refine gI ?_
 refine rH (fun w' hw' => (geq _ _ _ _)) (fun h => by have ey := Option.some.inj (Pi.symm.trans aa8); rw [← ey] at afl; have ec := Option.some.inj (aa7.symm.trans afl); have e4 := Gs.O3 (hW.st Pi aa7) (by rw [ec]; omega); exact absurd (show (x48).b = (x53).b by rw [hW.cell nU Pi aa6 aa7]; exact e4) (by assumption)) ?_
 refine jS (bF ?_)
 refine Z.g 1 ?_
 refine bF ?_
 refine Z.m GY ?_
 refine bF (eQ (bF (eQ (bF ?_))))
 refine iH (off := 1) Gs.kH (fun x => .slice x.A x.cs.length x.cp) (fun _ => rfl) (by decide) (by kernel_rfl) (by kernel_rfl) (by kernel_rfl) (fun w' hw' => gu.ai hw') (Fr.refl _ _ _) (by rfl) (by omega) (by omega) (fun x57 Vk => ?_)
 simp only [Int.toNat_natCast] at Vk
 have hyl163 : (x57).cs.length = (x20).cs.length := by rw [(hW.eq nU Vk).2, List.length_map]
 refine bF (eQ (bF ?_))
 refine iH (off := 1) Gs.jf (fun x => .bool x.ge) (fun _ => rfl) (by decide) (by kernel_rfl) (by kernel_rfl) (by kernel_rfl) (fun w' hw' => (eX.get Vk).ai hw') (Fr.refl _ _ _) (by rfl) (by omega) (by omega) (fun x58 afm => ?_)
 simp only [Int.toNat_natCast] at afm
 refine bF ?_
 refine rH (fun w' hw' => (UN _ _ (by kernel_rfl) _ _)) (fun h => h (by rw [hW.cell nU Vk aa6 afm]; exact Gs.zq (hW.st Vk afm))) ?_
 refine fP ?_
 refine aF (fun w59 LP => ?_)
 refine aB ?_
 refine aj (dF _ (by omega)) ?_
 replace iT := (((iT.ai wK).aA Kq Ko).ai Jf).ai LP
 replace gY := (((gY.ai wK).aA Kq Je).ai Jf).ai LP
 replace dG := LP.ag (Jf.ag (Kq.ak (wK.ag dG) QC))
 replace hF := (((hF.go0 wK).go1 Kq adu).go0 Jf).go0 LP
 replace gu := gu.ai LP
 replace eX := eX.ai LP
 exact ⟨⟨k + 1, (by rfl), by omega, dG, iT, gY, gu, eX, hF⟩, cnt_lt (by rfl) rfl (by omega)⟩
 refine dM (dM (dM (dM (dM (dM (dM (dM (dM (dM (fP (bF ?_)))))))))))
 refine Z.g 1 ?_
 refine bF ?_
 refine Z.m GY ?_
 refine bF (eQ (bF (eQ (bF ?_))))
 refine iH (off := 1) Gs.kH (fun x => .slice x.A x.cs.length x.cp) (fun _ => rfl) (by decide) (by kernel_rfl) (by kernel_rfl) (by kernel_rfl) (fun w' hw' => gu.ai hw') (Fr.refl _ _ _) (by rfl) (by omega) (by omega) (fun x60 Vl => ?_)
 simp only [Int.toNat_natCast] at Vl
 have hyl163 : (x60).cs.length = (x20).cs.length := by rw [(hW.eq nU Vl).2, List.length_map]
 refine bF (eQ (bF ?_))
 refine iH (off := 1) Gs.jf (fun x => .bool x.ge) (fun _ => rfl) (by decide) (by kernel_rfl) (by kernel_rfl) (by kernel_rfl) (fun w' hw' => (eX.get Vl).ai hw') (Fr.refl _ _ _) (by rfl) (by omega) (by omega) (fun x61 Rq => ?_)
 simp only [Int.toNat_natCast] at Rq
 refine bF ?_
 refine rH (fun w' hw' => (UN _ _ (by kernel_rfl) _ _)) (fun h => h (by rw [hW.cell nU Vl aa6 Rq]; exact Gs.zq (hW.st Vl Rq))) ?_
 refine fP ?_
 refine aF (fun w62 XX => ?_)
 refine aB ?_
 refine aj (dF _ (by omega)) ?_
 replace iT := (((iT.ai wK).aA Kq Ko).ai Jf).ai XX
 replace gY := (((gY.ai wK).aA Kq Je).ai Jf).ai XX
 replace dG := XX.ag (Jf.ag (Kq.ak (wK.ag dG) QC))
 replace hF := (((hF.go0 wK).go1 Kq adu).go0 Jf).go0 XX
 replace gu := gu.ai XX
 replace eX := eX.ai XX
 exact ⟨⟨k + 1, (by rfl), by omega, dG, iT, gY, gu, eX, hF⟩, cnt_lt (by rfl) rfl (by omega)⟩
 refine aB ?_
 refine hJ3 _ _ ?_
 exact ⟨dG, iT, gY, gu, eX, hF⟩
 refine bF (eQ (dM (dM (dM (bF (fP (bF (eQ (dM (dM (dM (dM (dM (dM (dM (dM (dM (dM (bF (fP (fP ?_)))))))))))))))))))))
 refine aF (fun w63 Az => ?_)
 refine aB ?_
 refine Z.f 1 ?_
 replace rM := Az.ag rM
 refine Z.l rM ?_
 refine aj (gm (by kernel_rfl) _ _ _) ?_
 refine dW (fun g w' => ∃ (k : Nat), (g 127 = Z.i (k : Int)) ∧ (k ≤ (x20).cs.length) ∧ (Z.h w' b8 #[Z.u q40.iK, .bool q40.alone, Z.i q40.cur, .slice A40 l40.length c40] 48) ∧ (Rd w' A40 (rows Gs.ie l40)) ∧ (Gs.Cl w' l40) ∧ (Rd w' A61 (rows Gs.ie l61)) ∧ (Gs.Cl w' l61) ∧ (az no w w')) (fun g w' => (x20).cs.length - (RowKit.intOf (g 127)).toNat) ?_ (fun g6 wl6 hI => ?_)
 replace iT := (((iT.ai dL).aA fB wX).ai eF).ai Az
 replace gY := (((gY.ai dL).aA fB tq).ai eF).ai Az
 replace eX := (((eX.ai dL).aA fB tu).ai eF).ai Az
 replace dG := Az.ag (eF.ag (fB.ak (dL.ag dG) Ah))
 replace hF := (((hF.go0 dL).go1 fB Fj).go0 eF).go0 Az
 replace gu := gu.ai Az
 exact ⟨0, (by rfl), Nat.zero_le _, dG, iT, gY, gu, eX, hF⟩
 replace iT := (((iT.ai dL).aA fB wX).ai eF).ai Az
 replace gY := (((gY.ai dL).aA fB tq).ai eF).ai Az
 replace eX := (((eX.ai dL).aA fB tu).ai eF).ai Az
 replace dG := Az.ag (eF.ag (fB.ak (dL.ag dG) Ah))
 replace hF := (((hF.go0 dL).go1 fB Fj).go0 eF).go0 Az
 replace gu := gu.ai Az
 obtain ⟨k, g127, hk, dG, iT, gY, gu, eX, hF⟩ := hI
 rw [g127]
 refine ay (lss _ _ _ _) (fun h64 => ?_) (fun h64 => ?_)
 refine aH ?_
 refine pK Gs.jf (by kernel_rfl) (by kernel_rfl) (gY.get nU) (by rfl) (by omega) (by omega) (fun x65 aa9 => ?_)
 simp only [Int.toNat_natCast] at aa9
 refine Z.n ((Gs.cv Gs.zc).toArray) (fun b66 w66 e66 GZ _ Kr => ?_)
 have QD : b8 ≠ b66 := by have := au dG; omega
 have Kt := iT.apart e66
 have Jg := gY.apart e66
 have WE := gu.apart e66
 have Vm := eX.apart e66
 have adv : w.heap.size ≤ b66 := by have := hF.size; omega
 refine Z.t 5 ((Gs.cv x65).toArray) (by (simp [Value.cells, Value.oneCell', Gs.cv, Gs.fv, Gs.ie, Gs.pe, Gs.oe, Gs.bT, Gs.fe, Gs.fC, Gs.ce, Gs.dX, Gs.re, Gs.de, Gs.ie]; done)) GZ (fun w67 GZ _ EE => ?_)
 refine dQ (S := no) (fun w68 Dl => ?_)
 refine Z.g 0 ?_
 replace GZ := Dl.ag GZ
 refine Z.m GZ ?_
 replace gu := ((gu.ai Kr).aA EE WE).ai Dl
 refine iH (off := 1) Gs.kH (fun x => .slice x.A x.cs.length x.cp) (fun _ => rfl) (by decide) (by kernel_rfl) (by kernel_rfl) (by kernel_rfl) (fun w' hw' => gu.ai hw') (Fr.refl _ _ _) (by rfl) (by omega) (by omega) (fun x69 Pj => ?_)
 simp only [Int.toNat_natCast] at Pj
 have hyl138 : (x69).cs.length = (x20).cs.length := by rw [(hW.eq nU Pj).2, List.length_map]
 replace eX := ((eX.ai Kr).aA EE Vm).ai Dl
 refine iH (off := 0) Gs.jf (fun x => Z.u x.b) (fun _ => rfl) (by decide) (by kernel_rfl) (by kernel_rfl) (by kernel_rfl) (fun w' hw' => (eX.get Pj).ai hw') (Fr.refl _ _ _) (by rfl) (by omega) (by omega) (fun x70 aba => ?_)
 simp only [Int.toNat_natCast] at aba
 refine jR (fun w' hw' => (kL _ _ _ _ _)) (fun h71 => ?_) (fun h71 => ?_)
 refine gI (eQ (gI (eQ (gI ?_))))
 refine iH (off := 1) Gs.kH (fun x => .slice x.A x.cs.length x.cp) (fun _ => rfl) (by decide) (by kernel_rfl) (by kernel_rfl) (by kernel_rfl) (fun w' hw' => gu.ai hw') (Fr.refl _ _ _) (by rfl) (by omega) (by omega) (fun x72 abb => ?_)
 simp only [Int.toNat_natCast] at abb
 have hyl149 : (x72).cs.length = (x20).cs.length := by rw [(hW.eq nU abb).2, List.length_map]
 refine gI (eQ (gI ?_))
 refine iH (off := 0) Gs.jf (fun x => Z.u x.b) (fun _ => rfl) (by decide) (by kernel_rfl) (by kernel_rfl) (by kernel_rfl) (fun w' hw' => (eX.get abb).ai hw') (Fr.refl _ _ _) (by rfl) (by omega) (by omega) (fun x73 Rt => ?_)
 simp only [Int.toNat_natCast] at Rt
 refine gI ?_
 refine rH (fun w' hw' => (geq _ _ _ _)) (fun h => by have ey := Option.some.inj (Pj.symm.trans abb); rw [← ey] at Rt; have ec := Option.some.inj (aba.symm.trans Rt); have e4 := Gs.O3 (hW.st Pj aba) (by rw [ec]; omega); exact absurd (show (x65).b = (x70).b by rw [hW.cell nU Pj aa9 aba]; exact e4) (by assumption)) ?_
 refine jS (bF ?_)
 refine Z.g 1 ?_
 refine bF ?_
 refine Z.m GZ ?_
 refine bF (eQ (bF (eQ (bF ?_))))
 refine iH (off := 1) Gs.kH (fun x => .slice x.A x.cs.length x.cp) (fun _ => rfl) (by decide) (by kernel_rfl) (by kernel_rfl) (by kernel_rfl) (fun w' hw' => gu.ai hw') (Fr.refl _ _ _) (by rfl) (by omega) (by omega) (fun x74 Vo => ?_)
 simp only [Int.toNat_natCast] at Vo
 have hyl163 : (x74).cs.length = (x20).cs.length := by rw [(hW.eq nU Vo).2, List.length_map]
 refine bF (eQ (bF ?_))
 refine iH (off := 1) Gs.jf (fun x => .bool x.ge) (fun _ => rfl) (by decide) (by kernel_rfl) (by kernel_rfl) (by kernel_rfl) (fun w' hw' => (eX.get Vo).ai hw') (Fr.refl _ _ _) (by rfl) (by omega) (by omega) (fun x75 yP => ?_)
 simp only [Int.toNat_natCast] at yP
 refine bF ?_
 refine rH (fun w' hw' => (UN _ _ (by kernel_rfl) _ _)) (fun h => h (by rw [hW.cell nU Vo aa9 yP]; exact Gs.zq (hW.st Vo yP))) ?_
 refine fP ?_
 refine aF (fun w76 XY => ?_)
 refine aB ?_
 refine aj (dF _ (by omega)) ?_
 replace iT := (((iT.ai Kr).aA EE Kt).ai Dl).ai XY
 replace gY := (((gY.ai Kr).aA EE Jg).ai Dl).ai XY
 replace dG := XY.ag (Dl.ag (EE.ak (Kr.ag dG) QD))
 replace hF := (((hF.go0 Kr).go1 EE adv).go0 Dl).go0 XY
 replace gu := gu.ai XY
 replace eX := eX.ai XY
 exact ⟨⟨k + 1, (by rfl), by omega, dG, iT, gY, gu, eX, hF⟩, cnt_lt (by rfl) rfl (by omega)⟩
 refine dM (dM (dM (dM (dM (dM (dM (dM (dM (dM (fP (bF ?_)))))))))))
 refine Z.g 1 ?_
 refine bF ?_
 refine Z.m GZ ?_
 refine bF (eQ (bF (eQ (bF ?_))))
 refine iH (off := 1) Gs.kH (fun x => .slice x.A x.cs.length x.cp) (fun _ => rfl) (by decide) (by kernel_rfl) (by kernel_rfl) (by kernel_rfl) (fun w' hw' => gu.ai hw') (Fr.refl _ _ _) (by rfl) (by omega) (by omega) (fun x77 KC => ?_)
 simp only [Int.toNat_natCast] at KC
 have hyl163 : (x77).cs.length = (x20).cs.length := by rw [(hW.eq nU KC).2, List.length_map]
 refine bF (eQ (bF ?_))
 refine iH (off := 1) Gs.jf (fun x => .bool x.ge) (fun _ => rfl) (by decide) (by kernel_rfl) (by kernel_rfl) (by kernel_rfl) (fun w' hw' => (eX.get KC).ai hw') (Fr.refl _ _ _) (by rfl) (by omega) (by omega) (fun x78 afn => ?_)
 simp only [Int.toNat_natCast] at afn
 refine bF ?_
 refine rH (fun w' hw' => (UN _ _ (by kernel_rfl) _ _)) (fun h => h (by rw [hW.cell nU KC aa9 afn]; exact Gs.zq (hW.st KC afn))) ?_
 refine fP ?_
 refine aF (fun w79 LQ => ?_)
 refine aB ?_
 refine aj (dF _ (by omega)) ?_
 replace iT := (((iT.ai Kr).aA EE Kt).ai Dl).ai LQ
 replace gY := (((gY.ai Kr).aA EE Jg).ai Dl).ai LQ
 replace dG := LQ.ag (Dl.ag (EE.ak (Kr.ag dG) QD))
 replace hF := (((hF.go0 Kr).go1 EE adv).go0 Dl).go0 LQ
 replace gu := gu.ai LQ
 replace eX := eX.ai LQ
 exact ⟨⟨k + 1, (by rfl), by omega, dG, iT, gY, gu, eX, hF⟩, cnt_lt (by rfl) rfl (by omega)⟩
 refine aB ?_
 refine hJ3 _ _ ?_
 exact ⟨dG, iT, gY, gu, eX, hF⟩
 obtain ⟨dG, iT, gY, gu, eX, hF⟩ := hI
 refine aj (dF _ (by omega)) ?_
 exact ⟨⟨k + 1, (by rfl), by omega, dG, iT, gY, gu, eX, hF⟩, cnt_lt (by rfl) rfl (by omega)⟩
 refine aB ?_
 refine hJ1 _ _ ?_
 exact hF
 replace hF := ((((((hF.go0 U8).go1 U9 rq).go0 aT).go0 cZ).go0 dH).go0 bZ).go0 dE
 have hF := hI
 exact ⟨rfl, hF⟩
 simp only [Z.d, Z.c] at h4
 refine bP ?_
 refine aj (mV) ?_
 refine bG (aH ?_)
 replace hF := (hF.go0 U3).go0 U4
 exact ⟨rfl, hF⟩
theorem UD {r c : Int} {ds : List Gs.lL} {dA : Option Addr} {dc : Nat} {gT : Nat} {eT : TypeId} {fT : Nat × Nat} {w : World} (hgT : Tryz.prog.globalNamed "internal/strconv.uint64pow10" = some gT) (fM : w.heap[gT]? = some (.cells Gs.Ap eT fT)) (lT : Rd w dA (rows Gs.de ds)) (lU : Gs.ut w ds) (hdw : Gs.MC ds) (hdn : ds.length ≤ maxLen) {x : Int} (hxb : 0 ≤ x ∧ x ≤ 255)  :
    oX 4 #[.agg #[Z.i r, Z.i c], .slice dA ds.length dc, Z.u x] w fun e w' => e = .returned (.bool true) ∧ az no w w' := by
 by_cases hok : Gs.Ei r c ds
 exact NV hgT fM lT lU hdw hdn hok hxb
 exact NU hgT fM lT lU hdw hdn hok hxb
end Go.Proofs.YtjdoakbadehicaaGreatDoor
end
section
namespace Go.Sh
open Go Go.ChangeShapes Go.WideShapes Go.RowKit
section
variable {H : Type} {enc : TypeId × Value → H} {P : Program} {w : World} {base : Nat} {spare : Nat → Bool} {held : Bool}
theorem WS {α : Type} {f : α → List Value} {m : Nat} {Q : α → Prop} (hf : Enc f m) {t e : TypeId} (ht : P.underlying t = some (.slice e)) (hc : P.cellsOf e = m) {fuel : Nat} {cs : List Value} {x : DataW H × List MemPlace}
  (hd : ∀ fuel cs x, DataW.trod enc P w base spare held fuel e cs = some x → ∃ a, cs = f a ∧ Q a) (hf1 : DataW.trod enc P w base spare held fuel t cs = some x) :
  ∃ (A : Option Addr) (len cap : Nat) (l : List α), cs = [.slice A len cap] ∧ Rd w A (rows f l) ∧ (∀ a ∈ l, Q a) ∧ len = l.length ∧ len ≤ cap ∧ cap ≤ maxLen := by
 rcases Go.Deep.open_slice ht hf1 with ⟨hcs, _⟩ | ⟨a, len, cap, m', n', D, Pl, hcs, _, hl, hm, hmm, _, hx⟩
 ·exact ⟨none, 0, 0, [], hcs, .inl rfl, (fun a ha => by cases ha), rfl, Nat.le_refl _, Nat.zero_le _⟩
 ·have hlm : len ≤ m' := by rw [hmm]; split <;> omega
  have key : ∀ k, k ≤ len → ∃ l : List α, l.length = k ∧ (∀ a ∈ l, Q a) ∧ ∀ i x, l[i]? = some x → w.cells? base (a.add (i * m)) m = some (f x) := by
   intro k
   induction k with
   | zero => intro _; exact ⟨[], rfl, (fun a ha => by cases ha), fun i x h => by simp at h⟩
   | succ k ih =>
    intro hk
    obtain ⟨l, h1, h2, h3⟩ := ih (by omega)
    obtain ⟨cs', h4, h5⟩ := hx k (by omega)
    obtain ⟨y, rfl, hq⟩ := hd _ _ _ h5
    refine ⟨l ++ [y], by simp [h1], fun b hb => ?_, fun i x hi => ?_⟩
    ·rcases List.mem_append.1 hb with hb | hb
     ·exact h2 b hb
     ·simp at hb; subst hb; exact hq
    ·by_cases hik : i < l.length
     ·rw [List.getElem?_append_left hik] at hi; exact h3 i x hi
     ·rw [List.getElem?_append_right (by omega)] at hi
      have hi0 : i - l.length = 0 := by
       have := (List.getElem?_eq_some_iff.1 hi).1
       simp at this; omega
      rw [hi0] at hi
      simp at hi
      subst hi
      have : i = k := by omega
      subst this
      rw [hc] at h4; exact h4
  obtain ⟨l, h1, h2, h3⟩ := key len (Nat.le_refl _)
  refine ⟨some a, len, cap, l, hcs, .inr ⟨a, rfl, fun j hj => ?_⟩, h2, h1.symm, hl, hm⟩
  rw [dV hf] at hj
  have hm0 := hf.pos
  have hq : j / m < l.length := Nat.div_lt_of_lt_mul (by rw [Nat.mul_comm]; exact hj)
  have hr : j % m < m := Nat.mod_lt _ hm0
  have hj' : j = j / m * m + j % m := by have := Nat.div_add_mod j m; rw [Nat.mul_comm] at this; omega
  have hxl : l[j / m]? = some l[j / m] := List.getElem?_eq_getElem hq
  obtain ⟨_, _, h6⟩ := World.cells?_some (h3 _ _ hxl)
  have h7 := h6 (j % m) hr
  rw [add_add, ← hj'] at h7
  rw [h7, ← NZ hf hxl, List.getElem?_take, if_pos hr, List.getElem?_drop, ← hj']
theorem fields_of {fs : Array Field} {t : TypeId} {fuel : Nat} {cs : List Value} {x : DataW H × List MemPlace} (ht : P.underlying t = some (.struct fs)) (h : DataW.trod enc P w base spare held fuel t cs = some x) :
  cs.length = P.cellsOf t ∧ ∃ n, ∀ (i : Nat) (f : Field), fs[i]? = some f → ∃ y, DataW.trod enc P w base spare held n f.type ((cs.drop f.offset).take (P.cellsOf f.type)) = some y := by
 obtain ⟨xs, n, _, _, hl, hx, hf⟩ := DataW.trod_struct ht h
 refine ⟨hl, n, fun i f hi => ?_⟩
 have hlt : i < xs.length := by rw [hx]; exact (Array.getElem?_eq_some_iff.1 hi).1
 exact ⟨xs[i], by rw [hf i f hi]; exact List.getElem?_eq_getElem hlt⟩
end
end Go.Sh
namespace Go.Proofs.YtjdoakbadehicaaGreatDoor
set_option maxRecDepth 100000
set_option linter.constructorNameAsVariable false
open Go Go.Sh Go.ChangeShapes Go.WideShapes Go.RowKit
section
variable {H : Type} {enc : TypeId × Value → H} {w : World} {base : Nat} {spare : Nat → Bool} {held : Bool}
theorem afT {n : Int} (h : (Lit.int .u8 n).wf = true) : 0 ≤ n ∧ n ≤ 255 := by
 have h1 : (decide (0 ≤ n) && decide (n ≤ 255)) = true := h
 simpa using h1
end
theorem adV : ∀ cs, oq [.int .i64, .int .u8] cs → ∃ a, cs = Gs.kv a ∧ Gs.Kw a := by
 rintro cs ⟨_, _, rfl, ⟨a, rfl, _⟩, ⟨_, _, rfl, ⟨b, rfl, hb⟩, rfl⟩⟩
 exact ⟨(a, b), rfl, afT hb⟩
section
variable {H : Type} {enc : TypeId × Value → H} {w : World} {base : Nat} {spare : Nat → Bool} {held : Bool}
theorem abD {fuel : Nat} {cs : List Value} {x : DataW H × List MemPlace} (h : DataW.trod enc Tryz.prog w base spare held fuel 118 cs = some x) : ∃ d : Gs.lL, cs = Gs.de d ∧ Rd w d.A (vals .u8 d.b) ∧ Gs.Dw1 d := by
 obtain ⟨hl, n, hf⟩ := fields_of Tryz.underlying118 h
 rw [show Tryz.prog.cellsOf 118 = 3 by kernel_rfl] at hl
 obtain ⟨y0, h0⟩ := hf 0 _ rfl
 obtain ⟨y1, h1⟩ := hf 1 _ rfl
 replace h0 : DataW.trod enc Tryz.prog w base spare held n 24 ((cs.drop 0).take (Tryz.prog.cellsOf 24)) = some y0 := h0
 rw [show Tryz.prog.cellsOf 24 = 1 by kernel_rfl] at h0
 replace h1 : DataW.trod enc Tryz.prog w base spare held n 45 ((cs.drop 1).take (Tryz.prog.cellsOf 45)) = some y1 := h1
 rw [show Tryz.prog.cellsOf 45 = 2 by kernel_rfl] at h1
 match cs, hl with
 | [a, b, c], _ =>
  obtain ⟨A, len, cap, l, ha, rd, hq, hn, hc, _⟩ := WS (encI .u8) Tryz.underlying24 (by kernel_rfl) (Q := fun a : Int => (Lit.int .u8 a).wf = true) (fun fuel cs x hx => ady .u8 _ (AO 3 fuel 5 _ cs x (by kernel_rfl) hx)) h0
  obtain ⟨q, hb, hkw⟩ := adV _ (AO 3 n 45 _ _ _ (by kernel_rfl) h1)
  simp only [List.drop_zero, List.take_succ_cons, List.take_zero, List.cons.injEq, and_true] at ha
  simp only [List.drop_succ_cons, List.drop_zero, List.take_succ_cons, List.take_zero, Gs.kv, List.cons.injEq, and_true] at hb
  obtain ⟨rfl, rfl⟩ := hb
  subst ha hn
  rw [ag3] at rd
  exact ⟨⟨A, cap, l, q.1, q.2⟩, rfl, rd, hc, fun x hx => afT (hq x hx), hkw⟩
theorem YT {r : Reach} {b0 : Nat} {v : Value} {d : DataW H} {ps : List MemPlace} (hval : Value.okWide Tryz.prog w r b0 57 v) (h : DataW.Trod enc Tryz.prog w base spare held 57 v d ps) :
  ∃ (A : Option Addr) (c : Nat) (l : List Gs.lL), v = .slice A l.length c ∧ Rd w A (rows Gs.de l) ∧ Gs.ut w l ∧ Gs.MC l ∧ l.length ≤ maxLen := by
 obtain ⟨A, len, cap, rfl⟩ := okWide_slice Tryz.underlying57 hval
 obtain ⟨fuel, h⟩ := h
 obtain ⟨A2, len2, cap2, l, he, rd, hq, hn, hcp, hmx⟩ := WS Gs.afV Tryz.underlying57 (by kernel_rfl) (Q := fun d : Gs.lL => Rd w d.A (vals .u8 d.b) ∧ Gs.Dw1 d) (fun fuel cs x hx => abD hx) h
 simp only [Value.cells, List.cons.injEq, Value.slice.injEq, and_true] at he
 obtain ⟨rfl, rfl, rfl⟩ := he
 subst hn
 exact ⟨A, cap, l, rfl, rd, fun x hx => (hq x hx).1, fun x hx => (hq x hx).2, Nat.le_trans hcp hmx⟩
end
end Go.Proofs.YtjdoakbadehicaaGreatDoor
end
