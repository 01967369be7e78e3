/- Part of a proof. No condition but those that its theorems state. -/
import Derived.Test.YtjdoakbadehicaaGreatDoorQc
import Derived.Lib.LaidTab
import Derived.Lib.AppendIntMem
import Derived.Test.YtjdoakbadehicaaGreatDoorQa
import Derived.ChangeSame
import Derived.Deep.Slices
set_option linter.unusedVariables false
set_option linter.unusedSimpArgs false
section
namespace Gs
open Go
end Gs
end
section
namespace Gs
open Go
theorem Ti {cs : List Cell} {k : Nat} {x : qN} (h : (allM cs)[k]? = some x) : ∃ s, (bU cs)[k]? = some s ∧ x = kC cs s := by
 have hk := (List.getElem?_eq_some_iff.1 h).1
 rw [FP] at hk
 exact ⟨_, List.getElem?_eq_getElem hk, by have := EF (List.getElem?_eq_getElem hk); rw [h] at this; exact Option.some.inj this⟩
theorem Tj {cs : List Cell} {k s : Nat} (h : (bU cs)[k]? = some s) : (0 ≤ (s : Int) ∧ (s : Int) < cs.length) ∧ stB cs s = true := by
 have := qc.1 (List.mem_of_getElem? h)
 exact ⟨by omega, this.2⟩
theorem ak5 {cs : List Cell} {k : Nat} {x : qN} (hx : (allM cs)[k]? = some x) : (0 ≤ x.s ∧ x.s < cs.length) ∧ stB cs x.s = true := by
 obtain ⟨s, hs, rfl⟩ := Ti hx
 exact Tj hs
end Gs
end
section
namespace Gs
open Go
theorem all_in {cs : List Cell} {k : Nat} {x : qN} (hx : (allM cs)[k]? = some x) : (0 ≤ x.s ∧ x.s < cs.length) ∧ 0 ≤ x.l ∧ x.l < cs.length ∧ x = kC cs x.s := by
 obtain ⟨s, hs, rfl⟩ := Ti hx
 obtain ⟨h0, hst⟩ := Tj hs
 obtain ⟨L, h1, h2, _⟩ := len_eq h0 hst
 refine ⟨h0, ?_, ?_, rfl⟩
 ·show 0 ≤ vC cs s; omega
 ·show vC cs s < cs.length; omega
theorem Zn {cs : List Cell} {k : Nat} {x : qN} (hx : (allM cs)[k]? = some x) : ((iy cs.length x).length : Int) = x.l := by
 have h := all_in hx
 rw [tK h.1]; omega
end Gs
end
section
namespace Gs
open Go
def OG (p n : Int) : List Int := match vT p n with | some (a, b) => [a, b] | none => [0, 0]
def DZ (f : qN) : Bool := decide (f.a % 2 = 1)
def ja (cs : List Cell) : List Int := (List.range cs.length).map Int.ofNat
def MZ (cs : List Cell) : List (Int × List Cell) :=
 if allM cs = [] then (if IJ cs (ja cs) = [] then [] else [(-1, IJ cs (ja cs))])
 else ((allM cs).filter DZ).map fun f => ((f.s + 1) % cs.length, IJ cs (iy cs.length f))
def EI (cs : List Cell) (f : qN) : List Int := 17 :: OG ((f.s + 1) % cs.length) cs.length ++ lW cs (iy cs.length f)
def allB (cs : List Cell) (cur jO : Int) : List Int := jO :: OG cur cs.length ++ (if allM cs = [] then lW cs (ja cs) else ((allM cs).filter DZ).flatMap (EI cs))
theorem PG {cs : List Cell} {k : Nat} {f : qN} (hf : (allM cs)[k]? = some f) : ∀ i ∈ iy cs.length f, (bV cs i).st = false := by
 intro i hi
 obtain ⟨⟨h0, h1⟩, hl0, hl1, he⟩ := all_in hf
 obtain ⟨j, hj⟩ := List.getElem?_of_mem hi
 have hjl := (List.getElem?_eq_some_iff.1 hj).1
 rw [xC hjl] at hj
 have hpl := Zn hf
 have hlen : f.l = vC cs f.s := congrArg qN.l he
 cases hst : (bV cs i).st with
 | false => rfl
 | true =>
  exfalso
  have hi0 := FD (show (iy cs.length f)[j]? = some i from by rw [xC hjl, hj])
  have h2 := SY hi0 hst
  have h3 := Tm ⟨h0, h1⟩ (ak5 hf).2 (j := j + 1) (by omega)
  rw [Option.some.inj hj, h2] at h3
  have h4 := Option.some.inj hj
  rw [h3] at h4
  have hm := jR (f.s + ((j + 1 : Nat) : Int)) (N := cs.length) (by omega)
  by_cases hw : f.s + ((j + 1 : Nat) : Int) < cs.length
  ·rw [Int.emod_eq_of_lt (by omega) hw] at h4; omega
  ·rw [← Int.sub_emod_right, Int.emod_eq_of_lt (by omega) (by omega)] at h4; omega
theorem ZI {cs : List Cell} (h : allM cs = []) : ∀ i ∈ ja cs, (bV cs i).st = false := by
 intro i hi
 obtain ⟨j, hj, rfl⟩ := List.mem_map.1 hi
 cases hst : (bV cs (Int.ofNat j)).st with
 | false => rfl
 | true =>
  exfalso
  have hm : j ∈ bU cs := qc.2 ⟨List.mem_range.1 hj, hst⟩
  have : (allM cs).length = (bU cs).length := FP cs
  rw [h] at this
  have h2 := List.length_pos_of_mem hm
  simp at this
  omega
end Gs
end
section
namespace Go.Sh
open Go
variable {P : Program} {R : Ending → World → Prop} {K : Value → World → Prop} {w : World}
def xw (T : Nat) (x : Int) : List PanicEntry := [{ v := .iface T (.agg #[.int .i64 x]), recovered := false }]
theorem gI {f : FuncId} {args : Array Value} {T : Nat} {D : Value → World → Prop} {E : Int → World → Prop}
  (hc : Calls P f args w fun e w' => (∃ v, e = .returned v ∧ D v w') ∨ ∃ x, e = .panicked (xw T x) ∧ E x w') (h : ∀ v w', D v w' → K v w') (hp : ∀ x w', E x w' → R (.panicked (xw T x)) w') : kF P f args w R K :=
 hc.mono fun e w' he => by
  rcases he with ⟨v, rfl, hd⟩ | ⟨x, rfl, hx⟩
  ·exact h v w' hd
  ·exact hp x w' hx
theorem xJ {t : TypeId} {v : Value} (h : R (.panicked [{ v := .iface t v, recovered := false }]) w) : bi ((Instr.panic (.iface t v)).run P w) R K := by
 have : (Instr.panic (.iface t v)).run P w = .halt (.panic (.iface t v)) w := rfl
 rw [this]; exact h
theorem xI {t : TypeId} {x : Value} (h : P.concrete t = true) : (Instr.makeInterface t x).run P w = .ok (.iface t x) w := run_makeInterface w t x h
theorem sZ {t n cap : Nat} {A : Option Addr} {xs : List Int} {k k1 : IntKind} {lo : Int} (ht : zJ P t = some 1) (hr : Rd w A (vals k xs)) (hl : n = xs.length) (h0 : 0 ≤ lo) (h1 : lo ≤ n) (hc : n ≤ cap)
  (h : ∀ A', Rd w A' (vals k (xs.drop lo.toNat)) → (∀ k, eY A' k → eY A k) → K (.slice A' (n - lo.toNat) (cap - lo.toNat)) w) :
  bi ((Instr.sliceAt t (.slice A n cap) (some (.int k1 lo)) none none).run P w) R K := by
 unfold zJ at ht
 split at ht
 ·rename_i e hu
  have hel : P.elem t = e := by simp [Program.elem, hu]
  have hu' : P.underlying t = some (.slice (P.elem t)) := by rw [hel]; exact hu
  have hr1 := run_slice_l (P := P) w t A n cap hu' k1 lo h0 h1
  rw [tq (P := P) (w := w) (by rw [hel]; exact ht)] at hr1
  have hr2 := run_sliceAt_slice (P := P) w t (.slice A n cap) (some (.int k1 lo)) none none hu'
  rw [hr1] at hr2
  refine ak (v := sliced A lo.toNat n cap 1) (w' := w) hr2 (h _ ?_ ?_)
  ·subst hl
   by_cases he : cap = lo.toNat
   ·have : lo.toNat = xs.length := by omega
    left
    simp [vals, this]
   ·rw [if_neg he]
    cases A with
    | none =>
     rcases hr with hx | ⟨a, ha, _⟩
     ·have := congrArg List.length hx; rw [vals_length] at this; simp at this; subst this; left; simp [vals]
     ·cases ha
    | some a =>
     have := hr.drop lo.toNat
     rw [Nat.mul_one]
     simpa [vals, List.map_drop] using this
  ·intro k hk
   split at hk
   ·exact hk
   ·obtain ⟨a, ha, rfl⟩ := hk
    cases A with
    | none => cases ha
    | some a0 => cases ha; exact ⟨a0, rfl, by rw [add_block]⟩
 ·cases ht
def ql (T B : Nat) (w : World) (br : Nat) (bs : List Int) : Prop :=
 ∃ A c, w.heap[br]? = some (.cells #[.slice A bs.length c] T (0, 0)) ∧ Rd w A (vals .u8 bs) ∧ bs.length ≤ c ∧ Bs bs ∧ br < B ∧ (bs = [] ∨ ∀ k, eY A k → k < B ∧ k ≠ br)
theorem ql.lt {T B : Nat} {br : Nat} {bs : List Int} (h : ql T B w br bs) : br < B := by obtain ⟨A, c, _, _, _, _, h, _⟩ := h; exact h
theorem ql.bs {T B : Nat} {br : Nat} {bs : List Int} (h : ql T B w br bs) : Bs bs := by obtain ⟨A, c, _, _, _, h, _⟩ := h; exact h
theorem ql.upd {T B : Nat} {br : Nat} {bs : List Int} {S : Nat → Prop} {w' : World} (h : ql T B w br bs) (u : aA S w w') (hS : ∀ k, k < B → ¬ S k) : ql T B w' br bs := by
 obtain ⟨A, c, h1, h2, h3, h4, h5, h6⟩ := h
 refine ⟨A, c, u.get h1 (hS _ h5), h2.dX u ?_, h3, h4, h5, h6⟩
 exact h6.imp (fun e => by rw [e]; rfl) (fun h k hk => hS k (h k hk).1)
theorem ql.ai {T B : Nat} {br : Nat} {bs : List Int} {w' : World} (h : ql T B w br bs) (u : aA no w w') : ql T B w' br bs := h.upd u (fun _ _ h => h)
theorem ql.mono {T B B' : Nat} {br : Nat} {bs : List Int} (h : ql T B w br bs) (hB : B ≤ B') : ql T B' w br bs := by
 obtain ⟨A, c, h1, h2, h3, h4, h5, h6⟩ := h
 exact ⟨A, c, h1, h2, h3, h4, by omega, h6.imp_right fun h k hk => ⟨by have := (h k hk).1; omega, (h k hk).2⟩⟩
end Go.Sh
namespace Gs
open Go Go.Sh
structure It where
 at' : Int
 A : Option Addr
 cp : Nat
 cs : List Cell
def ie (x : It) : List Value := [.int .i64 x.at', .slice x.A x.cs.length x.cp]
theorem Jp : Enc ie 2 := ⟨fun _ => rfl, fun a u hu => by
 simp only [ie, List.mem_cons, List.mem_nil_iff, or_false] at hu
 rcases hu with rfl | rfl <;> rfl, by decide⟩
def its (l : List It) : List (Int × List Cell) := l.map fun x => (x.at', x.cs)
def Cl (w : World) (l : List It) : Prop := ∀ x ∈ l, Rd w x.A (rows cv x.cs)
def ui (l : List It) (k : Nat) : Prop := ∃ x ∈ l, x.cs ≠ [] ∧ eY x.A k
def WI (l : List It) (B : Nat) : Prop := l = [] ∨ ∀ k, ui l k → k < B
theorem WI.ne {l : List It} {B : Nat} (h : WI l B) {b : Nat} (hb : B ≤ b) : l = [] ∨ ∀ k, ui l k → k ≠ b := h.imp_right fun h k hk => by have := h k hk; omega
theorem WI.mono {l : List It} {B B' : Nat} (h : WI l B) (hb : B ≤ B') : WI l B' := h.imp_right fun h k hk => by have := h k hk; omega
theorem ak9 {cs : List Cell} (h : cs ≠ []) : rows cv cs ≠ [] := fun e => by
 have := congrArg List.length e
 rw [iC yu] at this
 cases cs
 ·exact h rfl
 ·simp at this
theorem Cl.lt {w : World} {l : List It} (h : Cl w l) : WI l w.heap.size := by
 refine .inr fun k ⟨x, hx, hne, hk⟩ => ?_
 rcases (h x hx).lt with h2 | h2
 ·exact absurd h2 (ak9 hne)
 ·exact h2 k hk
theorem Cl.dX {S : Nat → Prop} {w w' : World} {l : List It} (h : Cl w l) (u : aA S w w') (hs : l = [] ∨ ∀ k, ui l k → ¬ S k) : Cl w' l := by
 intro x hx
 refine (h x hx).dX u ?_
 by_cases hc : x.cs = []
 ·left; rw [hc]; rfl
 ·right
  rcases hs with rfl | hs
  ·cases hx
  ·exact fun k hk => hs k ⟨x, hx, hc, hk⟩
theorem Cl.ai {w w' : World} {l : List It} (h : Cl w l) (u : aA no w w') : Cl w' l := h.dX u (.inr fun _ _ => id)
theorem Cl.aF {w w' : World} {l : List It} {b : Nat} (h : Cl w l) (u : aA (· = b) w w') (hs : l = [] ∨ ∀ k, ui l k → k ≠ b) : Cl w' l := h.dX u hs
theorem Cl.apart {w : World} {l : List It} (h : Cl w l) {b : Nat} (hb : b = w.heap.size) : l = [] ∨ ∀ k, ui l k → k ≠ b := h.lt.ne (by omega)
theorem Cl.get {w : World} {l : List It} (h : Cl w l) {k : Nat} {x : It} (hx : l[k]? = some x) : Rd w x.A (rows cv x.cs) := h x (List.mem_of_getElem? hx)
theorem Cl.nil (w : World) : Cl w [] := fun x hx => by cases hx
theorem Cl.snoc {w : World} {l : List It} {x : It} (h : Cl w l) (hx : Rd w x.A (rows cv x.cs)) : Cl w (l ++ [x]) := fun y hy => by
 rcases List.mem_append.1 hy with hy | hy
 ·exact h y hy
 ·rw [List.mem_singleton.1 hy]; exact hx
def Iw (l : List It) : Prop := ∀ x ∈ l, jh x.cs
theorem Iw.get {l : List It} (h : Iw l) {k : Nat} {x : It} (hx : l[k]? = some x) : jh x.cs := h x (List.mem_of_getElem? hx)
theorem Jq (l : List It) : (its l).length = l.length := by simp [its]
theorem adn (l : List It) (x : It) : its (l ++ [x]) = its l ++ [(x.at', x.cs)] := by simp [its]
def eX : List Int → Except Int (Int × List Int)
 | [] => .error 20
 | c :: r => .ok (c, r)
theorem ade {bs : List Int} {c : Int} (h : bs[0]? = some c) : eX bs = .ok (c, bs.drop 1) := by
 cases bs with
 | nil => cases h
 | cons a r => cases h; rfl
theorem dL {bs r : List Int} {c : Int} (h : eX bs = .ok (c, r)) : bs = c :: r := by
 cases bs with
 | nil => cases h
 | cons a l => cases h; rfl
theorem qE {bs : List Int} {x : Int} (h : eX bs = .error x) : bs = [] ∧ x = 20 := by
 cases bs with
 | nil => cases h; exact ⟨rfl, rfl⟩
 | cons a l => cases h
end Gs
namespace Gs
open Go Go.Sh
theorem aiQ {S' : World} {v v' : Value} {l : List It} (old : l = [] ∨ ∀ k, ui l k → ¬ aH v k) (lt : Cl S' l) (hA : ∀ k, aH v' k → aH v k ∨ S'.heap.size ≤ k) : l = [] ∨ ∀ k, ui l k → ¬ aH v' k := by
 rcases old with h | h
 ·exact .inl h
 ·rcases lt.lt with h2 | h2
  ·exact .inl h2
  ·refine .inr fun k hk ho => ?_
   rcases hA k ho with h3 | h3
   ·exact h k hk h3
   ·have := h2 k hk; omega
theorem KN {l : List It} {x : It} {k : Nat} (h : ui (l ++ [x]) k) : ui l k ∨ (x.cs ≠ [] ∧ eY x.A k) := by
 obtain ⟨y, hy, h⟩ := h
 rcases List.mem_append.1 hy with hy | hy
 ·exact .inl ⟨y, hy, h⟩
 ·rw [List.mem_singleton.1 hy] at h; exact .inr h
def rdL (w : World) (br : Nat) : Nat := match w.heap[br]? with | some (.cells cs _ _) => (match cs.toList with | Value.slice _ n _ :: _ => n | _ => 0) | _ => 0
theorem Jo {T B : Nat} {w : World} {br : Nat} {bs : List Int} (h : ql T B w br bs) : rdL w br = bs.length := by
 obtain ⟨A, c, h, _⟩ := h
 unfold rdL; rw [h]
theorem aa7 {l : List Int} (h : ¬ (0 : Int) < (l.length : Nat)) : l.head? = none := by
 have : l = [] := List.length_eq_zero_iff.1 (by omega)
 rw [this]; rfl
theorem TC {l : List Int} {x : Int} (hx : l[0]? = some x) : l.head? = some x := by rw [List.head?_eq_getElem?]; exact hx
theorem WE {l : List Int} {x : Int} (hx : l[0]? = some x) (h : x ≠ 17) : ¬ (l.head? = none ∨ l.head? = some 17) := by
 rw [TC hx]
 rintro (e | e)
 ·cases e
 ·exact h (Option.some.inj e)
def FU (acc : List Cell) : Except Int (List Cell × List Int) → Except Int (List Cell × List Int)
 | .ok (xs, r) => .ok (acc ++ xs, r)
 | .error e => .error e
theorem adg (x : Except Int (List Cell × List Int)) : x = FU [] x := by cases x <;> rfl
theorem abp {l r : List Int} {x : Cell} (h : ¬ (l.head? = none ∨ l.head? = some 17)) (hx : tX l = .ok (x, r)) : iG l = FU [x] (iG r) := by
 conv => lhs; unfold iG
 rw [if_neg h]
 split
 ·rename_i e he; rw [hx] at he; cases he
 ·rename_i y r1 he
  rw [hx] at he
  cases he
  cases iG r <;> rfl
theorem ZF {l : List Int} {e : Int} (h : ¬ (l.head? = none ∨ l.head? = some 17)) (hx : tX l = .error e) : iG l = .error e := by
 unfold iG
 rw [if_neg h]
 split
 ·rename_i e2 he; rw [hx] at he; cases he; rfl
 ·rename_i y r1 he; rw [hx] at he; cases he
theorem ZG {l : List Int} (h : l.head? = none ∨ l.head? = some 17) : iG l = .ok ([], l) := by unfold iG; rw [if_pos h]
theorem aa6 {bs l r : List Int} {acc : List Cell} {x : Cell} (hi : iG bs = FU acc (iG l)) (h : ¬ (l.head? = none ∨ l.head? = some 17)) (hx : tX l = .ok (x, r)) : iG bs = FU (acc ++ [x]) (iG r) := by
 rw [hi, abp h hx]
 cases iG r <;> simp [FU]
theorem TB {bs l : List Int} {acc : List Cell} (hi : iG bs = FU acc (iG l)) (h : l.head? = none ∨ l.head? = some 17) : iG bs = .ok (acc, l) := by
 rw [hi, ZG h]; simp [FU]
theorem adh {bs l : List Int} {acc : List Cell} {e : Int} (hi : iG bs = FU acc (iG l)) (h : ¬ (l.head? = none ∨ l.head? = some 17)) (hx : tX l = .error e) : iG bs = .error e := by
 rw [hi, ZF h hx]; rfl
theorem Zt {r : List Int} {x : Int} (h : eX r = .error x) : tX (8 :: r) = .error x := by
 obtain ⟨rfl, rfl⟩ := qE h; rfl
theorem jh.snoc {l : List Cell} {x : Cell} (h : jh l) (hx : 0 ≤ x.b ∧ x.b ≤ 255) : jh (l ++ [x]) := fun y hy => by
 rcases List.mem_append.1 hy with hy | hy
 ·exact h y hy
 ·rw [List.mem_singleton.1 hy]; exact hx
theorem Iw.snoc {l : List It} {x : It} (h : Iw l) (hx : jh x.cs) : Iw (l ++ [x]) := fun y hy => by
 rcases List.mem_append.1 hy with hy | hy
 ·exact h y hy
 ·rw [List.mem_singleton.1 hy]; exact hx
def adi (p : Int) : Except Int (List Cell × List Int) → Except Int ((Int × List Cell) × List Int)
 | .ok (xs, r) => .ok ((p, xs), r)
 | .error e => .error e
theorem PP (r : List Int) : qZ (17 :: r) = match ku r with | .error e => .error e | .ok (p, r) => (match iG r with | .error e => .error e | .ok (xs, r') => .ok ((p, xs), r')) := rfl
theorem adk {l r r2 : List Int} {c p : Int} (h : eX l = .ok (c, r)) (hc : c = 17) (hp : ku r = .ok (p, r2)) : qZ l = adi p (iG r2) := by
 rw [dL h, hc, PP, hp]
 dsimp only
 cases iG r2 <;> rfl
theorem Zv {l r : List Int} {c e : Int} (h : eX l = .ok (c, r)) (hc : c = 17) (hp : ku r = .error e) : qZ l = .error e := by
 rw [dL h, hc, PP, hp]
theorem adl {l : List Int} {x : Int} (hx : l[0]? = some x) (h : ¬ x = 17) : qZ l = adi (-1) (iG l) := by
 unfold qZ
 rw [if_neg (by rw [TC hx]; exact fun e => h (Option.some.inj e))]
 cases iG l <;> rfl
def FV (acc : List (Int × List Cell)) : Except Int (List (Int × List Cell)) → Except Int (List (Int × List Cell))
 | .ok xs => .ok (acc ++ xs)
 | .error e => .error e
theorem abq {l r : List Int} {x : Int × List Cell} (h : l ≠ []) (hx : qZ l = .ok (x, r)) : jJ l = FV [x] (jJ r) := by
 conv => lhs; unfold jJ
 rw [dif_neg h]
 split
 ·rename_i e he; rw [hx] at he; cases he
 ·rename_i y r1 he
  rw [hx] at he
  cases he
  cases jJ r <;> rfl
theorem ZH {l : List Int} {e : Int} (h : l ≠ []) (hx : qZ l = .error e) : jJ l = .error e := by
 unfold jJ
 rw [dif_neg h]
 split
 ·rename_i e2 he; rw [hx] at he; cases he; rfl
 ·rename_i y r1 he; rw [hx] at he; cases he
theorem aba {bs l r : List Int} {acc : List (Int × List Cell)} {x : Int × List Cell} (hi : jJ bs = FV acc (jJ l)) (h : l ≠ []) (hx : qZ l = .ok (x, r)) : jJ bs = FV (acc ++ [x]) (jJ r) := by
 rw [hi, abq h hx]
 cases jJ r <;> simp [FV]
theorem adp {bs l : List Int} {acc : List (Int × List Cell)} (hi : jJ bs = FV acc (jJ l)) (h : l = []) : jJ bs = .ok acc := by
 rw [hi, h]; unfold jJ; rw [dif_pos rfl]; simp [FV]
theorem ado {bs l : List Int} {acc : List (Int × List Cell)} {e : Int} (hi : jJ bs = FV acc (jJ l)) (h : l ≠ []) (hx : qZ l = .error e) : jJ bs = .error e := by
 rw [hi, ZH h hx]; rfl
theorem adm (x : Except Int (List (Int × List Cell))) : x = FV [] x := by cases x <;> rfl
theorem Zw {bs r : List Int} {a : Int} (h : eX bs = .ok (a, r)) (hr : r = []) : wu bs = .ok ⟨a, true, 0, []⟩ := by
 rw [dL h, hr]; rfl
theorem abd {bs r : List Int} {a e : Int} (h : eX bs = .ok (a, r)) (hr : r ≠ []) (hp : ku r = .error e) : wu bs = .error e := by
 rw [dL h]
 unfold wu
 dsimp only
 rw [if_neg hr, hp]
theorem agM {bs r r2 : List Int} {a c : Int} {xs : List (Int × List Cell)} (h : eX bs = .ok (a, r)) (hr : r ≠ []) (hp : ku r = .ok (c, r2)) (hx : jJ r2 = .ok xs) : wu bs = .ok ⟨a, false, c, xs⟩ := by
 rw [dL h]
 unfold wu
 dsimp only
 rw [if_neg hr, hp]
 dsimp only
 rw [hx]
theorem abb {bs r r2 : List Int} {a c e : Int} (h : eX bs = .ok (a, r)) (hr : r ≠ []) (hp : ku r = .ok (c, r2)) (hx : jJ r2 = .error e) : wu bs = .error e := by
 rw [dL h]
 unfold wu
 dsimp only
 rw [if_neg hr, hp]
 dsimp only
 rw [hx]
theorem aiR {bs : List Int} {e : Int} (h : eX bs = .error e) : wu bs = .error e := by obtain ⟨rfl, rfl⟩ := qE h; rfl
theorem adf {c : Int} {r : List Int} (h : fF c = false) (h8 : c ≠ 8) : tX (c :: r) = .error 21 := by
 unfold tX
 dsimp only
 rw [if_neg (by rw [h]; decide), if_pos h8]
theorem MR {bs r : List Int} {c x : Int} (h : eX bs = .ok (c, r)) (hx : bs[0]? = some x) : c = x := by
 rw [dL h] at hx; exact Option.some.inj hx
theorem aa9 {l : List It} {y : It} {b n c : Nat} (h : l = [] ∨ ∀ k, ui l k → k ≠ b) (hx : ¬ aH (.slice y.A n c) b) : l ++ [y] = [] ∨ ∀ k, ui (l ++ [y]) k → k ≠ b := by
 refine .inr fun k hk e => ?_
 rcases KN hk with h2 | ⟨_, a, ea, ek⟩
 ·rcases h with rfl | h
  ·obtain ⟨x, hx, _⟩ := h2; cases hx
  ·exact h k h2 e
 ·exact hx (by rw [ea]; subst e; subst ek; rfl)
theorem agL {l : List It} {y : It} {v : Value} {n c : Nat} (h : l = [] ∨ ∀ k, ui l k → ¬ aH v k) (hx : ∀ k, aH v k → ¬ aH (.slice y.A n c) k) : l ++ [y] = [] ∨ ∀ k, ui (l ++ [y]) k → ¬ aH v k := by
 refine .inr fun k hk ho => ?_
 rcases KN hk with h2 | ⟨_, a, ea, ek⟩
 ·rcases h with rfl | h
  ·obtain ⟨x, hx, _⟩ := h2; cases hx
  ·exact h k h2 ho
 ·exact hx k ho (by rw [ea]; subst ek; rfl)
theorem aiO {l : List It} {y : It} {B n c : Nat} {w : World} {e size : Nat} {xs : List Value} (h : ∀ k, ui l k → B ≤ k) (ho : Own B w e size (.slice y.A n c) xs) : ∀ k, ui (l ++ [y]) k → B ≤ k := fun k hk =>
 (KN hk).elim (h k) fun ⟨_, a, ea, ek⟩ => (Own.ge ho (k := k) (by rw [ea]; subst ek; rfl)).1
theorem TD {α : Type} {l : List α} (h : ¬ ((l.length : Nat) : Int) = 0) : l ≠ [] := fun e => h (by rw [e]; rfl)
theorem agJ {α : Type} {l : List α} (h : (0 : Int) < ((l.length : Nat) : Int)) : l ≠ [] := fun e => by rw [e] at h; simp at h
end Gs
namespace Go.Sh
open Go
theorem agR {r : Result Unit} {K : Value → World → Prop} (h : qY r (fun _ _ => False) K) : ∃ w', r = .ok () w' ∧ K undef w' := by
 cases r with
 | ok u w' => exact ⟨w', rfl, h⟩
 | halt s w' => cases s <;> exact h.elim
theorem Ro {P : Program} {w : World} {t n : Nat} {v : Value} {b : Nat} {T : TypeId} {cs : Array Value} (hn : aZ P t = some n) (hv : v.cells.size = n) (h1 : v.cells.all (·.oneCell') = true) (hb : w.heap[b]? = some (.cells cs T (0, 0))) (hl : cs.size = n) :
  ∃ w', (Instr.storeAt t (.pointer (some ⟨b, 0, none⟩)) v).run P w = .ok () w' ∧ w'.heap[b]? = some (.cells v.cells T (0, 0)) ∧ aA (· = b) w w' :=
 agR (K := fun _ w' => w'.heap[b]? = some (.cells v.cells T (0, 0)) ∧ aA (· = b) w w') (gK (o := 0) (cs' := v.cells) hn hv h1 hb (by omega) (by
  have h2 : cs.toList.drop (0 + n) = [] := List.drop_eq_nil_of_le (by simp; omega)
  rw [h2]; simp) (fun w' a _ c => ⟨a, c⟩))
end Go.Sh
end
section
namespace Go.Sh
open Go
theorem uQ.mono {A : Option Addr} {xs : List Value} {B B' : Nat} (h : uQ A xs B') (hb : B ≤ B') : uQ A xs B := h.imp_right fun h k hk => by have := h k hk; omega
end Go.Sh
namespace Gs
open Go Go.Sh
def TF (l : List It) (B : Nat) : Prop := l = [] ∨ ∀ k, ui l k → B ≤ k
theorem TF.ne {l : List It} {B b : Nat} (h : TF l B) (hb : b < B) : l = [] ∨ ∀ k, ui l k → k ≠ b := h.imp_right fun h k hk => by have := h k hk; omega
theorem TF.mono {l : List It} {B B' : Nat} (h : TF l B') (hb : B ≤ B') : TF l B := h.imp_right fun h k hk => by have := h k hk; omega
end Gs
namespace Go.Sh
open Go
variable {P : Program} {R : Ending → World → Prop} {K : Value → World → Prop} {w : World}
end Go.Sh
namespace Gs
open Go Go.Sh
end Gs
namespace Gs
open Go Go.Sh
end Gs
namespace Gs
open Go Go.Sh
end Gs
end
section
namespace Gs
open Go
theorem Na (p n : Int) : OG p n = [(pI p n).1, (pI p n).2.1] := by
 unfold OG pI
 cases h : vT p n with
 | none => rfl
 | some x => obtain ⟨a, b⟩ := x; rfl
theorem adx (p n : Int) : (OG p n).length = 2 := by rw [Na]; rfl
theorem ady {c : Cell} (h : c.ge = true) (h2 : c.b < 64) : rf c = [8, 64] := by unfold rf; rw [if_pos h, if_pos h2]
theorem adz {c : Cell} (h : c.ge = true) (h2 : ¬ c.b < 64) : rf c = [8, c.b] := by unfold rf; rw [if_pos h, if_neg h2]
theorem TR {c : Cell} (h : c.ge = false) (h2 : ¬ fF c.b = true) : rf c = [64] := by unfold rf; rw [if_neg (by rw [h]; decide), if_neg h2]
theorem TS {c : Cell} (h : c.ge = false) (h2 : fF c.b = true) : rf c = [c.b] := by unfold rf; rw [if_neg (by rw [h]; decide), if_pos h2]
theorem IK (c : Cell) : (rf c).length ≤ 2 := by
 unfold rf
 repeat' split
 all_goals simp
theorem agS {c : Cell} (h : c.b = 0) : (!c.ge) = pV c := by unfold pV; rw [decide_eq_true h]; rfl
theorem agT {c : Cell} (h : ¬ c.b = 0) : false = pV c := by unfold pV; rw [decide_eq_false h]; rfl
theorem agU {b : Int} (h : ¬ yZ b = ⟨#[]⟩) : decide (¬ b = 125) = decide (b = 109 ∨ b = 108 ∨ b = 110 ∨ b = 107) := by
 refine decide_eq_decide.2 ⟨fun h2 => ?_, fun h2 => by omega⟩
 unfold yZ at h
 repeat' split at h
 all_goals first | omega | exact absurd rfl h
theorem agV {b : Int} (h : ¬ ¬ yZ b = ⟨#[]⟩) : false = decide (b = 109 ∨ b = 108 ∨ b = 110 ∨ b = 107) := by
 have h := Classical.not_not.1 h
 refine (decide_eq_false fun h2 => ?_).symm
 unfold yZ at h
 repeat' split at h
 all_goals first | omega | exact absurd h (by decide)
theorem PQ (cs : List Cell) (l m : List Int) : lW cs (l ++ m) = lW cs l ++ lW cs m := by unfold lW; rw [List.map_append, List.filter_append, List.flatMap_append]
theorem abr {cs : List Cell} {l : List Int} {k : Nat} {x : Int} (hx : l[k]? = some x) (h : pV (bV cs x) = true) : lW cs (l.take k) = lW cs (l.take (k + 1)) := by
 rw [← sU hx, PQ]
 unfold lW; simp [h]
theorem abt {cs : List Cell} {l : List Int} {k : Nat} {x : Int} (hx : l[k]? = some x) (h : pV (bV cs x) = false) : lW cs (l.take k) ++ rf (bV cs x) = lW cs (l.take (k + 1)) := by
 rw [← sU hx, PQ]
 unfold lW; simp [h]
theorem IL {α : Type} {f : α → List Int} {b : Nat} (hf : ∀ x, (f x).length ≤ b) : ∀ l : List α, (l.flatMap f).length ≤ b * l.length
 | [] => by simp
 | x :: l => by
  rw [List.flatMap_cons, List.length_append, List.length_cons, Nat.mul_add, Nat.mul_one]
  have := IL hf l
  have := hf x
  omega
theorem FZ (cs : List Cell) (l : List Int) : (lW cs l).length ≤ 2 * l.length := by
 unfold lW
 refine Nat.le_trans (IL IK _) ?_
 have := List.length_filter_le (fun c => !pV c) (l.map (bV cs))
 rw [List.length_map] at this
 omega
theorem zu (cs : List Cell) : (ja cs).length = cs.length := by simp [ja]
theorem AV {cs : List Cell} {k : Nat} (h : k < cs.length) : (ja cs)[k]? = some (k : Int) := by simp [ja, h]
theorem agW {cs : List Cell} {k : Nat} (hk : k < cs.length) (h : pV (bV cs k) = true) : lW cs ((ja cs).take k) = lW cs ((ja cs).take (k + 1)) := abr (AV hk) h
theorem agX {cs : List Cell} {k : Nat} (hk : k < cs.length) (h : pV (bV cs k) = false) : lW cs ((ja cs).take k) ++ rf (bV cs k) = lW cs ((ja cs).take (k + 1)) := abt (AV hk) h
def ww (cs : List Cell) (k : Nat) : List Int := (((allM cs).take k).filter DZ).flatMap (EI cs)
def Dy (cs : List Cell) (f : qN) : List Int := 17 :: OG ((f.s + 1) % cs.length) cs.length
theorem WJ (cs : List Cell) (f : qN) : Dy cs f = [17] ++ [(pI ((f.s + 1) % cs.length) cs.length).1, (pI ((f.s + 1) % cs.length) cs.length).2.1] := by unfold Dy; rw [Na]; rfl
theorem PS (cs : List Cell) (f : qN) : EI cs f = Dy cs f ++ lW cs (iy cs.length f) := by unfold EI Dy; rfl
theorem ai2 {cs : List Cell} {k s : Nat} (hx : (bU cs)[k]? = some s) (h : (kC cs s).a % 2 = 1) : ww cs k ++ (Dy cs (kC cs s) ++ lW cs (iy cs.length (kC cs s))) = ww cs (k + 1) := by
 unfold ww
 rw [← sU (EF hx), List.filter_append, List.flatMap_append]
 have : DZ (kC cs s) = true := decide_eq_true h
 simp [this, PS]
theorem ai3 {cs : List Cell} {k s : Nat} (hx : (bU cs)[k]? = some s) (h : ¬ (kC cs s).a % 2 = 1) : ww cs k = ww cs (k + 1) := by
 unfold ww
 rw [← sU (EF hx), List.filter_append, List.flatMap_append]
 have : DZ (kC cs s) = false := decide_eq_false h
 simp [this]
theorem ZJ {cs : List Cell} (h : cs.length ≤ 4096) (f : qN) : (EI cs f).length ≤ 8200 := by
 rw [PS]
 unfold Dy
 have h1 := FZ cs (iy cs.length f)
 have h2 := Dj cs.length f
 simp only [List.length_append, List.length_cons, adx]
 omega
theorem TT {cs : List Cell} (h : cs.length ≤ 4096) (k : Nat) : (ww cs k).length ≤ 8200 * k := by
 unfold ww
 refine Nat.le_trans (IL (ZJ h) _) ?_
 have h1 := List.length_filter_le DZ ((allM cs).take k)
 rw [List.length_take] at h1
 exact Nat.mul_le_mul_left _ (by omega)
theorem adA (cs : List Cell) : ww cs (bU cs).length = ((allM cs).filter DZ).flatMap (EI cs) := by
 unfold ww
 rw [List.take_of_length_le (by rw [FP]; exact Nat.le_refl _)]
theorem ala {cs : List Cell} (hp : 0 < cs.length) (h : 0 ≤ lC cs 0 1) : allM cs ≠ [] := by
 obtain ⟨k, _, h1, h2⟩ := Iz (cs := cs) (at' := 0) (step := 1) ⟨by omega, by omega⟩ (by omega)
 intro e
 have hb := jR (0 + (k : Int) * 1) hp
 rw [h1] at h2
 have hm : (0 + (k : Int) * 1) % cs.length ∈ uC cs := DY.2 ⟨hb, h2.1⟩
 have : allM cs = (uC cs).map (kC cs) := rfl
 rw [this] at e
 rw [List.map_eq_nil_iff.1 e] at hm
 cases hm
theorem alb {cs : List Cell} (hp : 0 < cs.length) (h : ¬ 0 ≤ lC cs 0 1) : allM cs = [] := by
 have := G6 (cs := cs) (at' := 0) ⟨by omega, by omega⟩ (by omega)
 unfold allM
 rw [List.map_eq_nil_iff]
 cases hs : uC cs with
 | nil => rfl
 | cons s l =>
  exfalso
  obtain ⟨h1, h2⟩ := DY.1 (show s ∈ uC cs by rw [hs]; simp)
  rw [this s h1] at h2
  cases h2
theorem ai4 {cs : List Cell} {cur jO : Int} (h : allM cs ≠ []) : [jO] ++ [(pI cur cs.length).1, (pI cur cs.length).2.1] ++ ww cs (bU cs).length = allB cs cur jO := by
 unfold allB
 rw [if_neg h, Na, adA]; rfl
theorem ai5 {cs : List Cell} {cur jO : Int} (h : allM cs = []) : [jO] ++ [(pI cur cs.length).1, (pI cur cs.length).2.1] ++ lW cs (ja cs) = allB cs cur jO := by
 unfold allB
 rw [if_pos h, Na]; rfl
theorem abu {cs : List Cell} (h : cs.length ≤ 4096) : (ww cs (bU cs).length).length ≤ 33587200 := by
 have h1 := TT h (bU cs).length
 have h2 := ul cs
 have : 8200 * (bU cs).length ≤ 8200 * 4096 := Nat.mul_le_mul_left _ (by omega)
 omega
def readB (cs : List Cell) (cur jO : Int) : List Int := if jO = 109 ∨ jO = 108 ∨ jO = 110 ∨ jO = 107 then [jO] else allB cs cur jO
theorem agY {cs : List Cell} {cur jO : Int} (h : jO = 109 ∨ jO = 108 ∨ jO = 110 ∨ jO = 107) : readB cs cur jO = [jO] := if_pos h
theorem agZ {cs : List Cell} {cur jO : Int} (h : ¬ (jO = 109 ∨ jO = 108 ∨ jO = 110 ∨ jO = 107)) : readB cs cur jO = allB cs cur jO := if_neg h
end Gs
namespace Go.Sh
open Go
theorem adB {P : Program} {w : World} {t n m b : Nat} (hn : (match P.underlying t with | some (.array n e) => (aZ P e).map (n, ·) | _ => none) = some (n, m)) :
  (Instr.sliceAt t (.pointer (some ⟨b, 0, none⟩)) none none none).run P w = .ok (.slice (some ⟨b, 0, none⟩) n n) w := by
 split at hn
 ·rename_i n' e hu
  cases hc : aZ P e with
  | none => rw [hc] at hn; cases hn
  | some s =>
   rw [hc] at hn
   obtain ⟨rfl, rfl⟩ : n' = n ∧ s = m := by simpa using hn
   have hl : P.arrayLen t = n' := by simp [Program.arrayLen, hu]
   have he : P.elem t = e := by simp [Program.elem, hu]
   have hu' : P.underlying t = some (.array (P.arrayLen t) (P.elem t)) := by rw [hl, he]; exact hu
   rw [run_sliceAt_array_all w t ⟨b, 0, none⟩ hu', tq (P := P) (w := w) (by rw [he]; exact hc)]
   simp only [Result.andThen, slicedAt, hl, Nat.zero_mul, Nat.sub_zero]
   by_cases h0 : n' = 0
   ·subst h0; rfl
   ·rw [if_neg h0]
    have : (⟨b, 0, none⟩ : Addr).add 0 = ⟨b, 0, none⟩ := by unfold Addr.add; split <;> simp_all
    rw [this]
 ·cases hn
end Go.Sh
end
section
namespace Gs
open Go Go.Sh
def PO (p : Int) : ByteArray := if p = -1 then ⟨#[42]⟩ else yj p
def MX (page : Int) (c : Cell) : List UInt8 := (Utf8.encode (uK page c)).data.toList
def adC (p : Int) : ByteArray := ⟨#[32]⟩ ++ PO p ++ ⟨#[61]⟩
def Dw (page : Int) (x : Int × List Cell) : List UInt8 := (adC x.1).data.toList ++ x.2.flatMap (MX page)
def JQ (a cur : Int) : ByteArray := Dt a ++ ⟨#[32, 64]⟩ ++ yj cur
def TG (page : Int) (i : Inb) : List UInt8 := if i.alone = true then (Dt i.jO).data.toList else (JQ i.jO i.cur).data.toList ++ i.items.flatMap (Dw page)
theorem abm {α β : Type} {f : α → List β} {l : List α} {k : Nat} {x : α} (hx : l[k]? = some x) : (l.take (k + 1)).flatMap f = (l.take k).flatMap f ++ f x := by
 rw [List.take_add_one, hx]; simp
theorem KO {α β : Type} {f : α → List β} {m : Nat} {l : List α} (h : ∀ x ∈ l, (f x).length ≤ m) : (l.flatMap f).length ≤ m * l.length := by
 induction l with
 | nil => simp
 | cons a l ih =>
  have h1 := h a (List.mem_cons_self ..)
  have h2 := ih fun x hx => h x (List.mem_cons_of_mem _ hx)
  simp only [List.flatMap_cons, List.length_append, List.length_cons, Nat.mul_add, Nat.mul_one]; omega
theorem aiX {l : List It} {k : Nat} {x : It} (hx : l[k]? = some x) (page : Int) : (its (l.take (k + 1))).flatMap (Dw page) = (its (l.take k)).flatMap (Dw page) ++ ((⟨#[32]⟩ ++ PO x.at' ++ ⟨#[61]⟩ : ByteArray).data.toList ++ x.cs.flatMap (MX page)) := by
 have e : its (l.take (k + 1)) = its (l.take k) ++ [(x.at', x.cs)] := by rw [List.take_add_one, hx]; simp [its]
 rw [e]; simp [Dw, adC]
theorem TK {p : Int} (h : -9223372036854775808 ≤ p ∧ p ≤ 9223372036854775807) : (PO p).size ≤ 21 := by
 unfold PO; split
 ·decide
 ·exact FW h
theorem vG (a b : ByteArray) : (a ++ b).size = a.size + b.size := by simp
theorem Dx (a : ByteArray) : a.data.toList.length = a.size := by simp
theorem WG : (⟨#[32]⟩ : ByteArray).size = 1 := rfl
theorem WH : (⟨#[61]⟩ : ByteArray).size = 1 := rfl
theorem PN : (⟨#[32, 64]⟩ : ByteArray).size = 2 := rfl
theorem aiV {page : Int} {i : Inb} (h : i.alone = true) : TG page i = (Dt i.jO).data.toList := if_pos h
theorem aiY {page : Int} {i : Inb} (h : i.alone = false) : TG page i = (JQ i.jO i.cur).data.toList ++ i.items.flatMap (Dw page) := if_neg (by rw [h]; decide)
theorem str_eq (s : ByteArray) : s = ⟨s.data.toList.toArray⟩ := by cases s; simp
theorem OH {page : Int} {c : Cell} (h : 0 ≤ c.b ∧ c.b ≤ 255) : (MX page c).length ≤ 4 := by
 unfold MX; rw [(ai6 (abv h)).1]; exact encode_le _
theorem adu {page : Int} {c : Cell} (h : 0 ≤ c.b ∧ c.b ≤ 255) : (Utf8.encode (uK page c)).size ≤ 4 := by have := OH (page := page) h; simpa [MX] using this
theorem agO {page : Int} {xs : List Cell} {k : Nat} (h : jh xs) : ((xs.take k).flatMap (MX page)).length ≤ 4 * k := by
 have h1 := KO (f := MX page) (m := 4) (l := xs.take k) fun x hx => OH (h x (List.mem_of_mem_take hx))
 have h2 := List.length_take_le k xs
 omega
theorem adt {a cur : Int} (ha : 0 ≤ a ∧ a ≤ 255) (hc : -9223372036854775808 ≤ cur ∧ cur ≤ 9223372036854775807) : (JQ a cur).size ≤ 123 := by
 have h1 := MW ha; have h2 := FW hc
 unfold JQ; simp only [vG, PN]; omega
theorem ag0 {page : Int} {x : It} (hp : -9223372036854775808 ≤ x.at' ∧ x.at' ≤ 9223372036854775807) (hw : jh x.cs) (hc : x.cs.length ≤ 100000) : (Dw page (x.at', x.cs)).length ≤ 400023 := by
 have h1 := TK hp
 have h2 := KO (f := MX page) (m := 4) (l := x.cs) fun c hc => OH (hw c hc)
 unfold Dw adC
 simp only [List.length_append, Dx, vG, WG, WH]; omega
theorem TJ {page : Int} {l : List It} (hw : Iw l) (hp : ∀ x ∈ l, -9223372036854775808 ≤ x.at' ∧ x.at' ≤ 9223372036854775807) (hc : ∀ x ∈ l, x.cs.length ≤ 100000) (k : Nat) : ((its (l.take k)).flatMap (Dw page)).length ≤ 400023 * k := by
 have h1 := KO (f := Dw page) (m := 400023) (l := its (l.take k)) fun y hy => by
  obtain ⟨x, hx, rfl⟩ := List.mem_map.1 hy
  have hm := List.mem_of_mem_take hx
  exact ag0 (hp x hm) (hw x hm) (hc x hm)
 rw [Jq] at h1
 have h2 := List.length_take_le k l
 omega
def Af : Array Value := (Lib.pow10Tab.map fun z => Value.int .u64 z).toArray
end Gs
namespace Go.Sh
open Go
theorem aiU {P : Program} {w : World} {g : Nat} {e : TypeId} {f : Nat × Nat} (hg : P.globalNamed "internal/strconv.uint64pow10" = some g) (h : w.heap[g]? = some (.cells Gs.Af e f)) : Lib.TabIs P w "internal/strconv.uint64pow10" .u64 Lib.pow10Tab := by
 unfold Lib.TabIs World.var?; rw [hg]; simp only [Option.bind_some, h]; rfl
theorem ai7 {P : Program} {w : World} (h : Lib.TabIs P w "internal/strconv.uint64pow10" .u64 Lib.pow10Tab) : ∃ g e f, P.globalNamed "internal/strconv.uint64pow10" = some g ∧ w.heap[g]? = some (.cells Gs.Af e f) := by
 unfold Lib.TabIs World.var? at h
 cases hg : P.globalNamed "internal/strconv.uint64pow10" with
 | none => rw [hg] at h; cases h
 | some g =>
  rw [hg] at h
  simp only [Option.bind_some] at h
  split at h
  ·rename_i cs e f hh
   cases h
   exact ⟨g, e, f, rfl, hh⟩
  ·cases h
end Go.Sh
end
section
namespace Gs
open Go
end Gs
namespace Go.Sh
open Go
theorem Py {P : Program} {R : Ending → World → Prop} {K : Value → World → Prop} {w : World} {g : FuncId} {first cap args args' : Array Value} (hb : ((P.funcs[g]?).any fun fn => fn.body.isSome && !(fn.name == "runtime.NumGoroutine")) = true) (he : first ++ args ++ cap = args') (h : kF P g args' w R K) :
  AO P (.func (.func g) first cap) args w R K := by
 subst he
 exact ⟨hb, h⟩
end Go.Sh
end
section
namespace Gs
open Go Go.Sh
end Gs
namespace Go.Sh
open Go
variable {P : Program} {R : Ending → World → Prop} {K : Value → World → Prop} {w : World}
end Go.Sh
end
section
namespace Gs
open Go Go.Sh
end Gs
end
section
namespace Go.Sh
open Go Go.ChangeShapes Go.WideShapes Go.RowKit
def akX : TypeDesc → Value → Prop
  | .int k, v => ∃ n, v = .int k n ∧ (Lit.int k n).wf = true
  | .bool, v => ∃ b, v = .bool b
  | .string, v => ∃ s, v = .string s ∧ s.size ≤ maxLen
  | _, _ => False
def nH : List TypeDesc → List Value → Prop
  | [], vs => vs = []
  | d :: ds, vs => ∃ v vs', vs = v :: vs' ∧ akX d v ∧ nH ds vs'
theorem nH.len : ∀ {ds : List TypeDesc} {vs : List Value}, nH ds vs → vs.length = ds.length
  | [], _, h => by cases h; rfl
  | d :: ds, _, ⟨v, vs', h, _, h2⟩ => by subst h; simp [nH.len h2]
theorem nH.append : ∀ {ds es : List TypeDesc} {vs us : List Value}, nH ds vs → nH es us → nH (ds ++ es) (vs ++ us)
  | [], _, _, _, h, h2 => by cases h; exact h2
  | d :: ds, _, _, _, ⟨v, vs', h, h1, h3⟩, h2 => by subst h; exact ⟨v, vs' ++ _, rfl, h1, nH.append h3 h2⟩
def Xv : TypeDesc → Bool
  | .int _ | .bool | .string => true
  | _ => false
def Lu (P : Program) (rec : TypeId → Option (List TypeDesc)) : List Field → List TypeDesc → Option (List TypeDesc)
  | [], acc => some acc
  | f :: fs, acc => if f.offset = acc.length then
      match rec f.type with
      | some l => if P.cellsOf f.type = l.length then Lu P rec fs (acc ++ l) else none
      | none => none
    else none
def flat (P : Program) : Nat → TypeId → Option (List TypeDesc)
  | 0, _ => none
  | n + 1, t =>
    match P.underlying t with
    | some (.struct fs) => match Lu P (flat P n) fs.toList [] with
      | some l => if P.cellsOf t = l.length then some l else none
      | none => none
    | some d => if Xv d then some [d] else none
    | none => none
section
variable {H : Type} {enc : TypeId × Value → H} {P : Program} {w : World} {base : Nat} {spare : Nat → Bool} {held : Bool}
theorem aax {d : TypeDesc} {t : TypeId} {fuel : Nat} {cs : List Value} {x : DataW H × List MemPlace} (ht : P.underlying t = some d) (hd : Xv d = true) (h : DataW.trod enc P w base spare held fuel t cs = some x) : nH [d] cs := by
  cases fuel with
  | zero => simp [DataW.trod] at h
  | succ fuel =>
    cases d <;> simp only [Xv, Bool.false_eq_true] at hd <;> unfold DataW.trod at h <;> rw [ht] at h <;> dsimp only at h
    all_goals
      match cs, h with
      | [], h => simp at h
      | _ :: _ :: _, h => simp at h
      | [v], h =>
        cases v <;> simp only [reduceCtorEq] at h
        first
          | exact ⟨_, [], rfl, ⟨_, rfl⟩, rfl⟩
          | (split at h
             · rename_i hc
               first
                 | (obtain ⟨rfl, hc⟩ := hc; exact ⟨_, [], rfl, ⟨_, rfl, hc⟩, rfl⟩)
                 | exact ⟨_, [], rfl, ⟨_, rfl, hc⟩, rfl⟩
             · cases h)
theorem JF {rec : TypeId → Option (List TypeDesc)} {fuel : Nat} {cs : List Value}
    (hr : ∀ t ds cs x, rec t = some ds → DataW.trod enc P w base spare held fuel t cs = some x → nH ds cs) :
    ∀ (fs : List Field) (acc ds : List TypeDesc), Lu P rec fs acc = some ds → (∀ f ∈ fs, ∃ x, DataW.trod enc P w base spare held fuel f.type ((cs.drop f.offset).take (P.cellsOf f.type)) = some x) →
      nH acc (cs.take acc.length) → nH ds (cs.take ds.length)
  | [], acc, ds, h, _, h2 => by simp only [Lu, Option.some.injEq] at h; subst h; exact h2
  | f :: fs, acc, ds, h, hx, h2 => by
    unfold Lu at h
    split at h
    · rename_i ho
      split at h
      · rename_i l hl
        split at h
        · rename_i hc
          obtain ⟨x, h3⟩ := hx f (by simp)
          have h4 := hr _ _ _ _ hl h3
          refine JF hr fs _ ds h (fun g hg => hx g (by simp [hg])) ?_
          rw [List.length_append, List.take_add, ← ho]
          rw [ho, hc] at h4
          rw [ho]
          exact h2.append h4
        · cases h
      · cases h
    · cases h
theorem xQ : ∀ (n : Nat) (fuel : Nat) (t : TypeId) (ds : List TypeDesc) (cs : List Value) (x : DataW H × List MemPlace), flat P n t = some ds → DataW.trod enc P w base spare held fuel t cs = some x → nH ds cs
  | 0, _, _, _, _, _, h, _ => by simp [flat] at h
  | n + 1, fuel, t, ds, cs, x, h, hx => by
    unfold flat at h
    split at h
    · rename_i fs hu
      split at h
      · rename_i l hl
        split at h
        · rename_i hc
          simp only [Option.some.injEq] at h
          subst h
          obtain ⟨xs, m, _, rfl, hlen, hxs, hf⟩ := DataW.trod_struct hu hx
          have key := JF (enc := enc) (w := w) (base := base) (spare := spare) (held := held) (rec := flat P n) (fuel := m) (cs := cs) (fun t ds cs x h1 h2 => xQ n m t ds cs x h1 h2) fs.toList [] l hl (fun f hm => by
            obtain ⟨i, hi, rfl⟩ := List.getElem_of_mem hm
            have h5 := hf i fs.toList[i] (by rw [← Array.getElem?_toList, List.getElem?_eq_getElem hi])
            rw [List.getElem?_eq_getElem (by simp at hi; omega)] at h5
            exact ⟨_, h5⟩) rfl
          rw [← hc, ← hlen, List.take_length] at key
          exact key
        · cases h
      · cases h
    · rename_i d hd hu
      split at h
      · rename_i hl
        simp only [Option.some.injEq] at h
        subst h
        exact aax hu hl hx
      · cases h
    · cases h
theorem acI {α : Type} {f : α → List Value} {m : Nat} {Q : α → Prop} (hf : Enc f m) {t e : TypeId} {n : Nat} {ds : List TypeDesc} (ht : P.underlying t = some (.slice e)) (hfl : flat P n e = some ds) (hc : P.cellsOf e = m)
    (hd : ∀ cs, nH ds cs → ∃ a, cs = f a ∧ Q a) {A : Option Addr} {len cap : Nat} {d : DataW H} {ps : List MemPlace} (h : DataW.Trod enc P w base spare held t (.slice A len cap) d ps) :
    ∃ l : List α, Rd w A (rows f l) ∧ (∀ a ∈ l, Q a) ∧ len = l.length ∧ len ≤ maxLen := by
  obtain ⟨fuel, hf1⟩ := h
  rcases Go.Deep.open_slice ht hf1 with ⟨hcs, _⟩ | ⟨a, len', cap', m', n', D, Pl, hcs, _, hl, hm, hmm, _, hx⟩
  · simp only [Value.cells, List.cons.injEq, Value.slice.injEq, and_true] at hcs
    obtain ⟨rfl, rfl, rfl⟩ := hcs
    exact ⟨[], .inl rfl, (fun a ha => by cases ha), rfl, Nat.zero_le _⟩
  · simp only [Value.cells, List.cons.injEq, Value.slice.injEq, and_true] at hcs
    obtain ⟨rfl, rfl, rfl⟩ := hcs
    have hlm : len ≤ m' := by rw [hmm]; split <;> omega
    have key : ∀ k, k ≤ len → ∃ l : List α, l.length = k ∧ (∀ a ∈ l, Q a) ∧ ∀ i x, l[i]? = some x → w.cells? base (a.add (i * m)) m = some (f x) := by
      intro k
      induction k with
      | zero => intro _; exact ⟨[], rfl, (fun a ha => by cases ha), fun i x h => by simp at h⟩
      | succ k ih =>
        intro hk
        obtain ⟨l, h1, h2, h3⟩ := ih (by omega)
        obtain ⟨cs', h4, h5⟩ := hx k (by omega)
        obtain ⟨y, rfl, hq⟩ := hd _ (xQ _ _ _ _ _ _ hfl h5)
        refine ⟨l ++ [y], by simp [h1], fun b hb => ?_, fun i x hi => ?_⟩
        · rcases List.mem_append.1 hb with hb | hb
          · exact h2 b hb
          · simp at hb; subst hb; exact hq
        · by_cases hik : i < l.length
          · rw [List.getElem?_append_left hik] at hi; exact h3 i x hi
          · rw [List.getElem?_append_right (by omega)] at hi
            have hi0 : i - l.length = 0 := by
              have := (List.getElem?_eq_some_iff.1 hi).1
              simp at this; omega
            rw [hi0] at hi
            simp at hi
            subst hi
            have : i = k := by omega
            subst this
            rw [hc] at h4; exact h4
    obtain ⟨l, h1, h2, h3⟩ := key len (Nat.le_refl _)
    refine ⟨l, .inr ⟨a, rfl, fun j hj => ?_⟩, h2, h1.symm, by omega⟩
    rw [iC hf] at hj
    have hm0 := hf.pos
    have hq : j / m < l.length := Nat.div_lt_of_lt_mul (by rw [Nat.mul_comm]; exact hj)
    have hr : j % m < m := Nat.mod_lt _ hm0
    have hj' : j = j / m * m + j % m := by have := Nat.div_add_mod j m; rw [Nat.mul_comm] at this; omega
    have hxl : l[j / m]? = some l[j / m] := List.getElem?_eq_getElem hq
    obtain ⟨_, _, h6⟩ := World.cells?_some (h3 _ _ hxl)
    have h7 := h6 (j % m) hr
    rw [add_add, ← hj'] at h7
    rw [h7, ← NZ hf hxl, List.getElem?_take, if_pos hr, List.getElem?_drop, ← hj']
theorem acJ {α : Type} {f : α → List Value} {Q : α → Prop} {r : Reach} {b0 : Nat} {t : TypeId} {n : Nat} {fs : Array Field} {ds : List TypeDesc} (ht : P.underlying t = some (.struct fs)) (hfl : flat P n t = some ds) (hd : ∀ cs, nH ds cs → ∃ a, cs = f a ∧ Q a)
    {v : Value} {d : DataW H} {ps : List MemPlace} (hval : Value.okWide P w r b0 t v) (h : DataW.Trod enc P w base spare held t v d ps) : ∃ a, v = .agg (f a).toArray ∧ Q a := by
  obtain ⟨cs, rfl, _⟩ := okWide_struct ht hval
  obtain ⟨fuel, h1⟩ := h
  obtain ⟨a, h2, h3⟩ := hd _ (xQ _ _ _ _ _ _ hfl h1)
  refine ⟨a, ?_, h3⟩
  rw [← h2]
  simp [Value.cells]
end
def iv (k : IntKind) (x : Int) : List Value := [.int k x]
theorem encI (k : IntKind) : Enc (iv k) 1 := ⟨fun _ => rfl, fun a u hu => by
  simp only [iv, List.mem_singleton] at hu; subst hu; rfl, by decide⟩
theorem acK (k : IntKind) : ∀ cs, nH [.int k] cs → ∃ a, cs = iv k a ∧ (Lit.int k a).wf = true := by
  rintro cs ⟨_, _, rfl, ⟨a, rfl, ha⟩, rfl⟩
  exact ⟨a, rfl, ha⟩
theorem af8 (k : IntKind) (l : List Int) : rows (iv k) l = vals k l := by
  induction l with
  | nil => rfl
  | cons a l ih => show iv k a ++ rows (iv k) l = _; rw [ih]; rfl
end Go.Sh
end
section
namespace Gs
open Go Go.Sh
def sv (x : Int × Int) : List Value := [.int .i64 x.1, .int .i64 x.2]
theorem ace : ∀ cs, nH [.int .i64, .int .i64] cs → ∃ a, cs = sv a ∧ True := by
 rintro cs ⟨_, _, rfl, ⟨a, rfl, _⟩, ⟨_, _, rfl, ⟨b, rfl, _⟩, rfl⟩⟩
 exact ⟨(a, b), rfl, trivial⟩
end Gs
end
section
namespace Gs
open Go
theorem Iy {ps : List Cell} {a k : Int} {x : Cell} (ha : 0 ≤ a ∧ a < ps.length) (hk : 0 ≤ k ∧ k < ps.length) : bV (jb ps a x) k = if a = k then x else bV ps k := by
 rw [Jl x ha.1 ha.2, Tq ha hk]
theorem Ld {ps : List Cell} {a : Int} {x : Cell} (ha : 0 ≤ a ∧ a < ps.length) : bV (jb ps a x) a = x := by rw [Iy ha ha, if_pos rfl]
theorem rU {ps : List Cell} {a k : Int} {x : Cell} (ha : 0 ≤ a ∧ a < ps.length) (hk : 0 ≤ k ∧ k < ps.length) (h : k ≠ a) : bV (jb ps a x) k = bV ps k := by rw [Iy ha hk, if_neg (Ne.symm h)]
end Gs
namespace Go.Sh
open Go
variable {P : Program} {w : World} {R : Ending → World → Prop} {K : Value → World → Prop}
end Go.Sh
end
section
namespace Gs
open Go Go.Sh
def ch (x : Int) : Cell := ⟨x, false, false, 0, 0⟩
def qp (cs : List Cell) (z : Nat) (l : List Int) : Prop :=
 cs.length = z + 3 ∧ bV cs 0 = ⟨if l = [] then 0 else 1, false, true, 0, 0⟩ ∧ (∀ (j : Nat) x, l[j]? = some x → bV cs ((j : Int) + 1) = ch x) ∧
  (∀ i : Int, l.length < i ∧ i ≤ z → bV cs i = zc) ∧ bV cs ((z : Int) + 1) = ⟨48, false, true, 0, 0⟩ ∧ bV cs ((z : Int) + 2) = zc
section
variable {cs : List Cell} {z : Nat} {l : List Int}
theorem qp.st (h : qp cs z l) (hl : l.length ≤ z) {i : Int} (hi : 1 ≤ i ∧ i ≤ z) : stB cs i = false := by
 obtain ⟨_, _, h2, h3, _, _⟩ := h
 show (bV cs i).st = false
 by_cases hj : i ≤ l.length
 ·obtain ⟨j, rfl⟩ : ∃ j : Nat, i = (j : Int) + 1 := ⟨(i - 1).toNat, by omega⟩
  have hjl : j < l.length := by omega
  rw [h2 j l[j] (List.getElem?_eq_getElem hjl)]; rfl
 ·rw [h3 i (by omega)]; rfl
theorem qp.st0 (h : qp cs z l) : stB cs 0 = true := by show (bV cs 0).st = true; rw [h.2.1]
theorem qp.st1 (h : qp cs z l) : stB cs ((z : Int) + 1) = true := by show (bV cs _).st = true; rw [h.2.2.2.2.1]
theorem qp.st2 (h : qp cs z l) : stB cs ((z : Int) + 2) = false := by show (bV cs _).st = false; rw [h.2.2.2.2.2]; rfl
theorem qp.anC (h : qp cs z l) (hl : l.length ≤ z) : tV cs 0 = z + 1 := by
 have hn := h.1
 rw [aaZ (by omega), show ((0 : Int) + 1) % cs.length = 1 from Int.emod_eq_of_lt (by omega) (by omega)]
 have := Jm (cs := cs) (at' := 1) (step := 1) (k := z) (by omega) (fun j hj => by
  rw [show ((1 : Int) + j * 1) = j + 1 by omega, Int.emod_eq_of_lt (by omega) (by omega)]
  exact h.st hl (by omega)) (by omega) (by
  rw [show ((1 : Int) + z * 1) = z + 1 by omega, Int.emod_eq_of_lt (by omega) (by omega)]
  exact h.st1)
 rw [this, show ((1 : Int) + z * 1) = z + 1 by omega, Int.emod_eq_of_lt (by omega) (by omega)]
theorem qp.len0 (h : qp cs z l) (hl : l.length ≤ z) : vC cs 0 = z := by
 unfold vC
 rw [h.anC hl, if_neg (by omega)]; omega
theorem qp.at0 (h : qp cs z l) (hl : l.length ≤ z) : kC cs 0 = ⟨0, z, if l = [] then 0 else 1⟩ := by
 unfold kC
 rw [h.len0 hl, h.2.1]
 split <;> rfl
theorem qp.SI (h : qp cs z l) (hl : l.length ≤ z) {i : Int} (hi : 0 ≤ i ∧ i ≤ z) : gz cs i = 0 := by
 have hn := h.1
 obtain ⟨j, rfl⟩ := Int.eq_ofNat_of_zero_le hi.1
 have := Tm (cs := cs) (s := 0) (by omega) h.st0 (j := j) (by rw [h.len0 hl]; omega)
 rwa [Int.zero_add, Int.emod_eq_of_lt (by omega) (by omega)] at this
theorem qp.of (h : qp cs z l) (hl : l.length ≤ z) {i : Int} (hi : 0 ≤ i ∧ i ≤ z) : l7 cs i = ⟨0, z, if l = [] then 0 else 1⟩ ∧ lZ cs i = true := by
 unfold l7 lZ
 rw [h.SI hl hi]
 exact ⟨by rw [if_neg (by omega), h.at0 hl], by decide⟩
theorem qp.starts (h : qp cs z l) (hl : l.length ≤ z) : bU cs = [0, z + 1] := by
 unfold bU
 rw [h.1, show z + 3 = (1 + z) + 2 from by omega, List.range_add, List.filter_append, List.range_add, List.filter_append]
 have e0 : (List.range 1).filter (fun i => stB cs (i : Nat)) = [0] := by
  have := h.st0
  simp [List.range_succ, this]
 have e1 : ((List.range z).map fun x => 1 + x).filter (fun i => stB cs (i : Nat)) = [] := by
  rw [List.filter_eq_nil_iff]
  intro x hx
  obtain ⟨j, hj, rfl⟩ := List.mem_map.1 hx
  have := List.mem_range.1 hj
  rw [h.st hl (i := ((1 + j : Nat) : Int)) (by omega)]
  decide
 have e2 : ((List.range 2).map fun x => 1 + z + x).filter (fun i => stB cs (i : Nat)) = [z + 1] := by
  have h1 := h.st1
  have h2 := h.st2
  have a1 : stB cs ((1 + z : Nat) : Int) = true := by rw [show ((1 + z : Nat) : Int) = z + 1 by omega]; exact h1
  have a2 : stB cs ((1 + z + 1 : Nat) : Int) = false := by rw [show ((1 + z + 1 : Nat) : Int) = z + 2 by omega]; exact h2
  rw [show List.range 2 = [0, 1] from rfl]
  simp only [List.map_cons, List.map_nil, Nat.add_zero, List.filter_cons, a1, a2, List.filter_nil]
  simp [Nat.add_comm]
 rw [e0, e1, e2]; rfl
theorem qp.all (h : qp cs z l) (hl : l.length ≤ z) : ∃ y, allM cs = [⟨0, z, if l = [] then 0 else 1⟩, ⟨z + 1, y, 48⟩] := by
 refine ⟨vC cs ((z : Int) + 1), ?_⟩
 unfold allM uC
 rw [h.starts hl]
 show [kC cs 0, kC cs ((z + 1 : Nat) : Int)] = _
 rw [h.at0 hl]
 congr 1
 unfold kC
 rw [show ((z + 1 : Nat) : Int) = z + 1 by omega, h.2.2.2.2.1]
 rfl
theorem qp.step (h : qp cs z l) (hl : l.length < z) (x : Int) : qp (o5 (jb cs ((l.length : Int) + 1) (ch x)) ((l.length : Int) + 1)) z (l ++ [x]) := by
 have hn := h.1
 have hc : (jb cs ((l.length : Int) + 1) (ch x)).length = z + 3 := by rw [mi, hn]
 -- the cell alone is no attribute: the fields are as they were
 have hst : ∀ i : Int, stB (jb cs ((l.length : Int) + 1) (ch x)) i = stB cs i := by
  intro i
  by_cases hi : 0 ≤ i ∧ i < cs.length
  ·by_cases he : i = (l.length : Int) + 1
   ·subst he
    show (bV _ _).st = (bV _ _).st
    rw [Ld (by omega), h.2.2.2.1 _ (by omega)]; rfl
   ·show (bV _ _).st = (bV _ _).st
    rw [rU (by omega) hi he]
  ·show (bV _ _).st = (bV _ _).st
   rw [xh hi, xh (by rw [mi]; exact hi)]
 have hb : gz (jb cs ((l.length : Int) + 1) (ch x)) ((l.length : Int) + 1) = 0 := by
  have e : gz (jb cs ((l.length : Int) + 1) (ch x)) ((l.length : Int) + 1) = gz cs ((l.length : Int) + 1) := by
   unfold gz lC AL
   rw [mi]
   simp only [hst]
  rw [e]; exact h.SI (by omega) (by omega)
 unfold o5
 rw [hb, if_neg (by omega)]
 unfold qQ
 have h00 : bV (jb cs ((l.length : Int) + 1) (ch x)) 0 = bV cs 0 := rU (by omega) (by omega) (by omega)
 have hx0 : yU true (bV (jb cs ((l.length : Int) + 1) (ch x)) 0) = ⟨1, false, true, 0, 0⟩ := by
  rw [h00, h.2.1]
  unfold yU
  rw [if_pos rfl]
  by_cases hl0 : l = []
  ·rw [if_pos hl0]; rfl
  ·rw [if_neg hl0]; rfl
 rw [hx0]
 refine ⟨by rw [mi, hc], ?_, fun j y hj => ?_, fun i hi => ?_, ?_, ?_⟩
 ·rw [Ld (by omega), if_neg (by simp)]
 ·have hjl : j < (l ++ [x]).length := (List.getElem?_eq_some_iff.1 hj).1
  simp only [List.length_append, List.length_cons, List.length_nil] at hjl
  rw [rU (by omega) (by omega) (by omega)]
  by_cases he : j = l.length
  ·subst he
   rw [List.getElem?_append_right (Nat.le_refl _)] at hj
   simp at hj
   subst hj
   rw [Ld (by omega)]
  ·rw [List.getElem?_append_left (by omega)] at hj
   rw [rU (by omega) (by omega) (by omega)]
   exact h.2.2.1 j y hj
 ·simp only [List.length_append, List.length_cons, List.length_nil] at hi
  rw [rU (by omega) (by omega) (by omega), rU (by omega) (by omega) (by omega)]
  exact h.2.2.2.1 i (by omega)
 ·rw [rU (by omega) (by omega) (by omega), rU (by omega) (by omega) (by omega)]
  exact h.2.2.2.2.1
 ·rw [rU (by omega) (by omega) (by omega), rU (by omega) (by omega) (by omega)]
  exact h.2.2.2.2.2
theorem qp.want (h : qp cs z l) (hl : l.length ≤ z) (hs : ∀ x ∈ l, 64 ≤ x) : MZ cs = if l = [] then [] else [(1, l.map ch)] := by
 have hn := h.1
 obtain ⟨y, ha⟩ := h.all hl
 unfold MZ
 rw [if_neg (by rw [ha]; simp), ha]
 by_cases he : l = []
 ·rw [if_pos he, if_pos he]; rfl
 ·rw [if_neg he, if_neg he]
  have o1 : DZ ⟨0, z, 1⟩ = true := rfl
  have o2 : DZ ⟨z + 1, y, 48⟩ = false := rfl
  simp only [List.filter_cons, o1, o2, List.filter_nil]
  simp only [if_true, Bool.false_eq_true, if_false, List.map_cons, List.map_nil]
  rw [show ((0 : Int) + 1) % (cs.length : Int) = 1 from Int.emod_eq_of_lt (by omega) (by omega)]
  congr 2
  -- its places are those from 1 on
  have hp : iy cs.length ⟨0, z, 1⟩ = (List.range z).map fun k : Nat => ((k : Int) + 1) := by
   unfold iy
   rw [if_pos (by show (0 : Int) ≤ 0 ∧ (0 : Int) < _; omega), show (min (max (z : Int) 0) (cs.length : Nat)).toNat = z by omega]
   refine List.map_congr_left fun k hk => ?_
   have := List.mem_range.1 hk
   show ((0 : Int) + (k + 1 : Nat)) % _ = _
   rw [Int.emod_eq_of_lt (by omega) (by omega)]; omega
  rw [hp]
  unfold IJ
  rw [List.map_map]
  obtain ⟨m, rfl⟩ : ∃ m, z = l.length + m := ⟨z - l.length, by omega⟩
  rw [List.range_add, List.map_append, List.filter_append, List.map_append]
  have e1 : (List.range l.length).map (bV cs ∘ fun k : Nat => ((k : Int) + 1)) = l.map ch := by
   refine List.ext_getElem? fun j => ?_
   rw [List.getElem?_map, List.getElem?_map]
   by_cases hj : j < l.length
   ·rw [List.getElem?_range hj, List.getElem?_eq_getElem hj]
    simp only [Option.map_some, Function.comp]
    rw [h.2.2.1 j l[j] (List.getElem?_eq_getElem hj)]
   ·rw [List.getElem?_eq_none (by simpa using hj), List.getElem?_eq_none (by omega)]; rfl
  have e2 : (((List.range m).map fun x => l.length + x).map (bV cs ∘ fun k : Nat => ((k : Int) + 1))).filter (fun c => !pV c) = [] := by
   rw [List.filter_eq_nil_iff]
   intro c hc
   obtain ⟨k, hk, rfl⟩ := List.mem_map.1 hc
   obtain ⟨j, hj, rfl⟩ := List.mem_map.1 hk
   have := List.mem_range.1 hj
   simp only [Function.comp]
   rw [h.2.2.2.1 _ (by omega)]
   decide
  rw [e1, e2, List.map_nil, List.append_nil]
  have e3 : (l.map ch).filter (fun c => !pV c) = l.map ch := by
   rw [List.filter_eq_self]
   intro c hc
   obtain ⟨x, hx, rfl⟩ := List.mem_map.1 hc
   have := hs x hx
   unfold pV ch
   dsimp only
   rw [decide_eq_false (by omega)]; rfl
  rw [e3, List.map_map]
  refine List.map_congr_left fun x hx => ?_
  have := hs x hx
  unfold EH ch
  simp only [Function.comp, Bool.false_eq_true, if_false]
  rw [if_pos (by unfold fF; rw [decide_eq_true this]; rfl)]
end
theorem Jk {cs : List Cell} (h : 0 < cs.length) : 0 ≤ rZ cs ∧ rZ cs < cs.length := by
 unfold rZ
 split
 ·exact jR _ h
 ·exact ⟨by omega, by omega⟩
theorem L9 {cs : List Cell} {i : Int} (h : jX cs i = true) : 0 ≤ i ∧ i < cs.length := by
 unfold jX at h
 split at h
 ·exact of_decide_eq_true h
 ·rename_i hb
  exact Classical.not_not.1 fun hn => hb (by unfold gz; rw [yX hn]; decide)
end Gs
end
section
namespace Go.Proofs.YtjdoakbadehicaaGreatDoor
open Go Go.Sh
set_option maxRecDepth 100000
theorem DX {bk : Nat} {st why tn : Int} {x0 x4 x5 : Value} {w : World} (aG : Z.h w bk #[x0, Z.i st, Z.i why, Z.i tn, x4, x5] 95) {s2 y2 : Int} :
    oX 46 #[.pointer (some ⟨bk, 1, none⟩), Z.i s2, Z.i y2] w fun e w' => ∃ v, e = .returned v ∧ ∃ t' : Int, Z.h w' bk #[x0, Z.i s2, Z.i y2, Z.i t', x4, x5] 95 ∧ aA (· = bk) w w' := by
 refine F46.calls ?_
 unfold F46
 have hF : aA (· = bk) w w := Fr.refl _ _ _
 refine bM (fun g w' => ∃ (t' : Int), (Z.h w' bk #[x0, Z.i st, Z.i why, Z.i t', x4, x5] 95) ∧ (aA (· = bk) w w')) (fun J1 hJ1 => ?_) (fun gJ1 jT hI => ?_)
 refine dw ?_
 refine Z.f 0 ?_
 refine Z.l aG ?_
 refine az (kR _ _ _ _ _) (fun h1 => ?_) (fun h1 => ?_)
 refine aJ ?_
 refine dw ?_
 refine Z.f 2 ?_
 refine Z.l aG ?_
 refine ak (FI _ _ _ _) ?_
 refine dw ?_
 refine Z.f 2 ?_
 refine Z.s aG (fun w2 aG _ U2 => ?_)
 replace hF := hF.go U2 (fun i _ h => h)
 refine hJ1 _ _ ?_
 exact ⟨_, aG, hF⟩
 refine aC ?_
 refine hJ1 _ _ ?_
 exact ⟨_, aG, hF⟩
 obtain ⟨t', aG, hF⟩ := hI
 refine dw ?_
 refine Z.f 0 ?_
 refine Z.s aG (fun w3 aG _ U3 => ?_)
 replace hF := hF.go U3 (fun i _ h => h)
 refine dw ?_
 refine Z.f 1 ?_
 refine Z.s aG (fun w4 aG _ U4 => ?_)
 replace hF := hF.go U4 (fun i _ h => h)
 exact ⟨_, rfl, t', aG, hF⟩
theorem zt {bk : Nat} {st why tn : Int} {x0 x4 x5 : Value} {w : World} (aG : Z.h w bk #[x0, Z.i st, Z.i why, Z.i tn, x4, x5] 95) :
    oX 17 #[.pointer (some ⟨bk, 1, none⟩)] w fun e w' => ∃ v, e = .returned v ∧ ∃ t' : Int, Z.h w' bk #[x0, Z.i 1, Z.i 0, Z.i t', x4, x5] 95 ∧ aA (· = bk) w w' := by
 refine F17.calls ?_
 unfold F17
 have hF : aA (· = bk) w w := Fr.refl _ _ _
 refine aN (DX aG (s2 := 1) (y2 := 0)) (fun v1 w1 D1 => ?_)
 obtain ⟨t3, N1, U1⟩ := D1
 replace aG := N1
 replace hF := hF.go U1 (fun i _ h => h)
 exact ⟨_, rfl, _, aG, hF⟩
theorem qf {bk : Nat} {st why tn : Int} {x0 x4 x5 : Value} {w : World} (aG : Z.h w bk #[x0, Z.i st, Z.i why, Z.i tn, x4, x5] 95) :
    oX 28 #[.pointer (some ⟨bk, 1, none⟩)] w fun e w' => e = .returned (Z.i (if st = 1 then 0 else 40)) ∧ aA no w w' := by
 refine F28.calls ?_
 unfold F28
 have hF : aA no w w := Fr.refl _ _ _
 refine dw ?_
 refine Z.f 0 ?_
 refine Z.l aG ?_
 refine az (kR _ _ _ _ _) (fun h1 => ?_) (fun h1 => ?_)
 refine aJ ?_
 exact ⟨congrArg (fun q => Ending.returned (Z.i q)) (if_neg (by assumption)).symm, hF⟩
 refine aC ?_
 exact ⟨congrArg (fun q => Ending.returned (Z.i q)) (if_pos (Classical.not_not.1 (by assumption))).symm, hF⟩
theorem VH {bk : Nat} {st why tn : Int} {x0 x4 x5 : Value} {w : World} (aG : Z.h w bk #[x0, Z.i st, Z.i why, Z.i tn, x4, x5] 95) (hs : st = 1) :
    oX 83 #[.pointer (some ⟨bk, 1, none⟩)] w fun e w' => ∃ v, e = .returned v ∧ v = Z.i 0 ∧ ∃ t' : Int, Z.h w' bk #[x0, Z.i 2, Z.i 0, Z.i t', x4, x5] 95 ∧ aA (· = bk) w w' := by
 refine F83.calls ?_
 unfold F83
 have hF : aA (· = bk) w w := Fr.refl _ _ _
 refine aB (qf aG) (fun w1 U1 => ?_)
 rw [if_pos hs]
 refine ny (kR _ _ _ _ _) (fun h => h rfl) ?_
 refine aC ?_
 replace aG := U1.af aG
 refine aN (DX aG (s2 := 2) (y2 := 0)) (fun v2 w2 D2 => ?_)
 obtain ⟨t10, N2, U2⟩ := D2
 replace aG := N2
 replace hF := hF.go0 U1
 replace hF := hF.go U2 (fun i _ h => h)
 exact ⟨_, rfl, rfl, _, aG, hF⟩
theorem EY {b : Int} {w : World} (hb : 0 ≤ b ∧ b ≤ 255) :
    oX 9 #[Z.u b] w fun e w' => e = .returned (.bool (decide (¬ Gs.y9 b = ⟨#[]⟩))) ∧ aA no w w' := by
 refine F9.calls ?_
 unfold F9
 have hF : aA no w w := Fr.refl _ _ _
 refine aB (yt hb) (fun w1 U1 => ?_)
 refine ak (neS _ _ _ _) ?_
 replace hF := hF.go0 U1
 exact ⟨rfl, hF⟩
theorem Me {k b : Int} {w : World} (hb : 0 ≤ b ∧ b ≤ 255) :
    oX 48 #[.agg #[Z.i k, Z.u b]] w fun e w' => e = .returned (.bool (decide ((1 ≤ k ∧ k < 17) ∨ (k = 17 ∧ ¬ Gs.y9 b = ⟨#[]⟩)))) ∧ aA no w w' := by
 refine F48.calls ?_
 unfold F48
 have hF : aA no w w := Fr.refl _ _ _
 refine Z.x (#[Z.i k, Z.u b]) (fun b1 w1 e1 ah _ U1 => ?_)
 refine Z.f 0 ?_
 refine Z.l ah ?_
 refine az (geq _ _ _ _) (fun h2 => ?_) (fun h2 => ?_)
 refine aX ?_
 refine Z.f 0 ?_
 refine aX ?_
 refine Z.l ah ?_
 refine aX ?_
 refine az (lss _ _ _ _) (fun h3 => ?_) (fun h3 => ?_)
 refine aT (bu (bu (bu (bu (rG (rG (rG (bu (aT ?_)))))))))
 replace hF := hF.go0 U1
 exact ⟨Ku (.inl ⟨by omega, by omega⟩), hF⟩
 refine aT (bD ?_)
 refine Z.f 0 ?_
 refine bD ?_
 refine Z.l ah ?_
 refine bD ?_
 refine az (cZ _ _ _ _ _) (fun h5 => ?_) (fun h5 => ?_)
 refine bD (aX ?_)
 refine Z.f 1 ?_
 refine aX ?_
 refine Z.l ah ?_
 refine aX ?_
 refine aB (EY hb) (fun w6 U6 => ?_)
 refine bD (aT (aU ?_))
 replace hF := (hF.go0 U1).go0 U6
 exact ⟨congrArg (fun q => Ending.returned (.bool q)) (decide_eq_decide.2 ⟨fun h => .inr ⟨by omega, h⟩, fun h => h.elim (fun h => by omega) (fun h => h.2)⟩), hF⟩
 refine bD (aQ (aQ (aQ (bD (aU (aU ?_))))))
 replace hF := hF.go0 U1
 exact ⟨KC (fun h => h.elim (fun h => by omega) (fun h => by omega)), hF⟩
 refine aQ (aQ (aQ (aU (bD ?_))))
 refine Z.f 0 ?_
 refine bD ?_
 refine Z.l ah ?_
 refine bD ?_
 refine az (cZ _ _ _ _ _) (fun h9 => ?_) (fun h9 => ?_)
 refine bD (aX ?_)
 refine Z.f 1 ?_
 refine aX ?_
 refine Z.l ah ?_
 refine aX ?_
 refine aB (EY hb) (fun w10 aY => ?_)
 refine bD (aT (aU ?_))
 replace hF := (hF.go0 U1).go0 aY
 exact ⟨congrArg (fun q => Ending.returned (.bool q)) (decide_eq_decide.2 ⟨fun h => .inr ⟨by omega, h⟩, fun h => h.elim (fun h => by omega) (fun h => h.2)⟩), hF⟩
 refine bD (aQ (aQ (aQ (bD (aU (aU ?_))))))
 replace hF := hF.go0 U1
 exact ⟨KC (fun h => h.elim (fun h => by omega) (fun h => by omega)), hF⟩
theorem yR {x : Int} {w : World} (hx : 0 ≤ x ∧ x ≤ 255) :
    oX 118 #[Z.u x] w fun e w' => e = .returned (.bool (decide (x / 16 % 2 = 1))) ∧ aA no w w' := by
 refine Yy.calls ?_
 unfold Yy
 have hF : aA no w w := Fr.refl _ _ _
 refine ak (agb _ (by omega)) ?_
 refine ak (kR _ _ _ _ _) ?_
 exact ⟨yL (by omega), hF⟩
theorem kD {r c cur : Int} {A : Option Addr} {n cp bp B0 : Nat} {cs : List Gs.Cell} {w : World} (ag : Z.h w bp #[Z.i r, Z.i c, .slice A n cp, Z.i cur] 91) (ae : Own B0 w 37 5 (.slice A n cp) (rows Gs.cv cs)) (hn : n = cs.length) {i j : Int} (hp : 0 < n) (hN : Gs.aZ r c = n) (hb : n ≤ 4096)  :
    oX 125 #[Z.p bp, Z.i i, Z.i j] w fun e w' => e = .returned (Z.i ((i + j) % (n : Int))) ∧ aA no w w' := by
 refine YA.calls ?_
 unfold YA
 have hF : aA no w w := Fr.refl _ _ _
 refine aB (jS ag ae hn) (fun w1 U1 => ?_)
 refine aB (mJ (i := i) (j := j)) (fun w2 U2 => ?_)
 rw [hN, Gs.rO (by omega)]
 replace hF := (hF.go0 U1).go0 U2
 exact ⟨rfl, hF⟩
theorem lN {r c cur : Int} {A : Option Addr} {n cp bp B0 : Nat} {cs : List Gs.Cell} {w : World} (ag : Z.h w bp #[Z.i r, Z.i c, .slice A n cp, Z.i cur] 91) (ae : Own B0 w 37 5 (.slice A n cp) (rows Gs.cv cs)) (hn : n = cs.length) {i : Int} (hi : 0 ≤ i ∧ i < cs.length) :
    oX 124 #[Z.p bp, Z.i i] w fun e w' => ∃ v, e = .returned v ∧ v = Z.i i ∧ Z.h w' bp #[Z.i r, Z.i c, .slice A n cp, Z.i i] 91 ∧ aA (· = bp) w w' := by
 refine Yz.calls ?_
 unfold Yz
 have hF : aA (· = bp) w w := Fr.refl _ _ _
 refine aN (qR ag ae hn (i := i)) (fun v1 w1 D1 => ?_)
 obtain ⟨rfl, N1, U1⟩ := D1
 replace ag := N1
 replace hF := hF.go U1 (fun i _ h => h)
 rw [if_pos hi] at ag
 exact ⟨_, rfl, rfl, ag, hF⟩
theorem UT {r c cur : Int} {A : Option Addr} {n cp bp B0 : Nat} {cs : List Gs.Cell} {w : World} (ag : Z.h w bp #[Z.i r, Z.i c, .slice A n cp, Z.i cur] 91) (ae : Own B0 w 37 5 (.slice A n cp) (rows Gs.cv cs)) (hn : n = cs.length) (hp : 0 < n) (hN : Gs.aZ r c = n) (hb : n ≤ 4096) (hx : (Gs.bV cs ((cur + 1) % (n : Int))).st = false) :
    oX 74 #[Z.p bp] w fun e w' => ∃ v, e = .returned v ∧ v = Z.i ((cur + 1) % (n : Int)) ∧ Z.h w' bp #[Z.i r, Z.i c, .slice A n cp, Z.i ((cur + 1) % (n : Int))] 91 ∧ aA (· = bp) w w' := by
 refine V7.calls ?_
 unfold V7
 have hnx := Gs.jR (cur + 1) (N := n) (by omega)
 have hF : aA (· = bp) w w := Fr.refl _ _ _
 refine aB (eF ag ae hn) (fun w1 U1 => ?_)
 replace ae := ae.ai U1
 replace ag := U1.af ag
 refine aB (kD ag ae hn (i := cur) (j := 1) hp hN hb) (fun w2 U2 => ?_)
 replace ae := ae.ai U2
 replace ag := U2.af ag
 refine aN (lN ag ae hn (i := ((cur + 1) % (n : Int))) (by omega)) (fun v3 w3 D3 => ?_)
 obtain ⟨rfl, N3, U3⟩ := D3
 replace ae := ae.aF U3 (Own.aS ae (by assumption) (by decide))
 replace ag := N3
 replace hF := (hF.go0 U1).go0 U2
 replace hF := hF.go U3 (fun i _ h => h)
 refine aB (iF ag ae hn (i := ((cur + 1) % (n : Int)))) (fun w4 U4 => ?_)
 obtain ⟨xb, xg, xl, xc, hxe⟩ : ∃ b g l c, Gs.bV cs ((cur + 1) % (n : Int)) = ⟨b, g, false, l, c⟩ := ⟨_, _, _, _, by rw [← hx]⟩
 rw [hxe]
 refine Z.n ((Gs.cv Gs.zc).toArray) (fun b5 w5 e5 bY _ U5 => ?_)
 replace ag := U4.af ag
 have jW : bp ≠ b5 := by have := au ag; omega
 replace hF := hF.go0 U4
 have ik : w.heap.size ≤ b5 := by have := hF.size; omega
 refine Z.t 5 ((Gs.cv ⟨xb, xg, false, xl, xc⟩).toArray) (by (simp [Value.cells, Value.oneCell', Gs.cv, Gs.fv, Gs.ie]; done)) bY (fun w6 bY _ U6 => ?_)
 refine Z.f 2 ?_
 refine Z.l bY ?_
 refine aQ (aQ (aQ (aU (aC ?_))))
 refine Z.f 2 ?_
 refine Z.l bY ?_
 refine aC ?_
 replace ag := U6.aj (U5.af ag) jW
 replace hF := (hF.go0 U5).go1 U6 ik
 exact ⟨_, rfl, rfl, ag, hF⟩
theorem QT {r c cur : Int} {A : Option Addr} {n cp bp B0 : Nat} {cs : List Gs.Cell} {w : World} (ag : Z.h w bp #[Z.i r, Z.i c, .slice A n cp, Z.i cur] 91) (ae : Own B0 w 37 5 (.slice A n cp) (rows Gs.cv cs)) (hn : n = cs.length) {x : Int} (hN : Gs.aZ r c = n) (hb : n ≤ 4096) (hcw : Gs.jh cs) (hof : Gs.lZ cs cur = true) (hop : Gs.jX cs cur = true) (hnm : ¬ (Gs.l7 cs cur).a / 16 % 2 = 1)  :
    oX 71 #[Z.p bp, Z.u x] w fun e w' => e = .returned (Z.i 0) ∧ aA no w w' := by
 refine V9.calls ?_
 unfold V9
 have hF : aA no w w := Fr.refl _ _ _
 refine aB (eF ag ae hn) (fun w1 U1 => ?_)
 replace ae := ae.ai U1
 replace ag := U1.af ag
 refine aB (tu ag ae hn hN hb hcw (i := cur)) (fun w2 U2 => ?_)
 rw [hof]
 refine Z.e ?_
 refine Z.e ?_
 refine Z.n ((Gs.fv Gs.zf).toArray) (fun b3 w3 e3 bC _ U3 => ?_)
 replace ag := U2.af ag
 have lH : bp ≠ b3 := by have := au ag; omega
 replace ae := ae.ai U2
 have iQ := ae.apart e3
 replace hF := (hF.go0 U1).go0 U2
 have jF : w.heap.size ≤ b3 := by have := hF.size; omega
 refine Z.t 3 ((Gs.fv (Gs.l7 cs cur)).toArray) (by (simp [Value.cells, Value.oneCell', Gs.cv, Gs.fv, Gs.ie]; done)) bC (fun w4 bC _ U4 => ?_)
 replace ae := (ae.ai U3).aF U4 iQ
 replace ag := U4.aj (U3.af ag) lH
 refine aB (eF ag ae hn) (fun w5 U5 => ?_)
 replace ae := ae.ai U5
 replace ag := U5.af ag
 refine EP (nJ ag ae hn hN hb hcw (i := cur)) (hop) (fun w6 U6 => ?_)
 refine ak (lV) ?_
 refine aC (aX ?_)
 refine Z.f 2 ?_
 refine aX ?_
 replace bC := U6.af (U5.af bC)
 refine Z.l bC ?_
 refine aX ?_
 refine WV (yR (Gs.X8 hcw cur)) (decide_eq_false hnm) (fun w7 U7 => ?_)
 refine aT (aQ (aQ (aQ (aU (aC ?_)))))
 replace hF := ((((hF.go0 U3).go1 U4 jF).go0 U5).go0 U6).go0 U7
 exact ⟨rfl, hF⟩
theorem QU {r c cur : Int} {A : Option Addr} {n cp bp B0 : Nat} {cs : List Gs.Cell} {w : World} (ag : Z.h w bp #[Z.i r, Z.i c, .slice A n cp, Z.i cur] 91) (ae : Own B0 w 37 5 (.slice A n cp) (rows Gs.cv cs)) (hn : n = cs.length) {x : Int} (hp : 0 < n) (hN : Gs.aZ r c = n) (hb : n ≤ 4096) (hcw : Gs.jh cs) (hxb : 0 ≤ x ∧ x ≤ 255) (hof : Gs.lZ cs cur = true) (hop : Gs.jX cs cur = true) (hnm : ¬ (Gs.l7 cs cur).a / 16 % 2 = 1) (hx : (Gs.bV (Gs.o5 (Gs.jb cs cur ⟨x, false, false, (Gs.bV cs cur).l, (Gs.bV cs cur).c⟩) cur) ((cur + 1) % (n : Int))).st = false)  :
    oX 37 #[Z.p bp, Z.u x, .bool false] w fun e w' => ∃ v, e = .returned v ∧ v = Z.i 0 ∧ Z.h w' bp #[Z.i r, Z.i c, .slice A n cp, Z.i ((cur + 1) % (n : Int))] 91 ∧ Own B0 w' 37 5 (.slice A n cp) (rows Gs.cv (Gs.o5 (Gs.jb cs cur ⟨x, false, false, (Gs.bV cs cur).l, (Gs.bV cs cur).c⟩) cur)) ∧ aA (fun k => aH (.slice A n cp) k ∨ k = bp) w w' := by
 refine We.calls ?_
 unfold We
 have hl1 : n = (Gs.jb cs cur ⟨x, false, false, (Gs.bV cs cur).l, (Gs.bV cs cur).c⟩).length := by rw [Gs.mi]; exact hn
 have hw1 : Gs.jh (Gs.jb cs cur ⟨x, false, false, (Gs.bV cs cur).l, (Gs.bV cs cur).c⟩) := hcw.jb (show Gs.Cw ⟨x, false, false, (Gs.bV cs cur).l, (Gs.bV cs cur).c⟩ from hxb) _
 have hl2 : n = (Gs.o5 (Gs.jb cs cur ⟨x, false, false, (Gs.bV cs cur).l, (Gs.bV cs cur).c⟩) cur).length := by rw [Gs.PE]; exact hl1
 have hcur := Gs.L9 hop
 have hF : aA (fun k => aH (.slice A n cp) k ∨ k = bp) w w := Fr.refl _ _ _
 refine aB (eF ag ae hn) (fun w1 U1 => ?_)
 replace ae := ae.ai U1
 replace ag := U1.af ag
 refine aB (QT ag ae hn (x := x) hN hb hcw hof hop hnm) (fun w2 U2 => ?_)
 refine ny (kR _ _ _ _ _) (fun h => h rfl) ?_
 refine aC ?_
 replace ae := ae.ai U2
 replace ag := U2.af ag
 refine aB (iF ag ae hn (i := cur)) (fun w3 U3 => ?_)
 refine Z.n ((Gs.cv Gs.zc).toArray) (fun b4 w4 e4 eu _ U4 => ?_)
 replace ag := U3.af ag
 have tC : bp ≠ b4 := by have := au ag; omega
 replace ae := ae.ai U3
 have oW := ae.apart e4
 replace hF := ((hF.go0 U1).go0 U2).go0 U3
 have nZ : w.heap.size ≤ b4 := by have := hF.size; omega
 refine Z.t 5 ((Gs.cv (Gs.bV cs cur)).toArray) (by (simp [Value.cells, Value.oneCell', Gs.cv, Gs.fv, Gs.ie]; done)) eu (fun w5 eu _ U5 => ?_)
 refine bM (fun g w' => (Z.h w' bp #[Z.i r, Z.i c, .slice A n cp, Z.i cur] 91) ∧ (Own B0 w' 37 5 (.slice A n cp) (rows Gs.cv cs)) ∧ (Z.h w' b4 ((Gs.cv (Gs.bV cs cur)).toArray) 37) ∧ (aA (fun k => aH (.slice A n cp) k ∨ k = bp) w w')) (fun J1 hJ1 => ?_) (fun gJ1 jT hI => ?_)
 refine aC ?_
 refine hJ1 _ _ ?_
 replace ae := (ae.ai U4).aF U5 oW
 replace ag := U5.aj (U4.af ag) tC
 replace hF := (hF.go0 U4).go1 U5 nZ
 exact ⟨ag, ae, eu, hF⟩
 replace ae := (ae.ai U4).aF U5 oW
 replace ag := U5.aj (U4.af ag) tC
 replace hF := (hF.go0 U4).go1 U5 nZ
 obtain ⟨ag, ae, eu, hF⟩ := hI
 refine Z.f 3 ?_
 refine Z.l eu ?_
 refine Z.f 4 ?_
 refine Z.l eu ?_
 refine ak (bG (l := [(0, 1), (1, 1), (2, 1), (3, 1), (4, 1)]) (z := #[Z.u 0, .bool false, .bool false, Z.u 0, Z.u 0]) (cs := Gs.cv ⟨x, false, false, (Gs.bV cs cur).l, (Gs.bV cs cur).c⟩) (by kernel_rfl) (by rfl)) ?_
 refine aN (jv ag ae hn (i := cur) (x := ⟨x, false, false, (Gs.bV cs cur).l, (Gs.bV cs cur).c⟩)) (fun v7 w7 D7 => ?_)
 obtain ⟨rfl, N7, U7⟩ := D7
 have aK := ae
 replace ag := U7.get ag (fun h => Own.aS aK ag (by decide) _ h rfl)
 replace ae := N7
 replace hF := hF.go U7 (fun i h hs => .inl hs)
 clear aK
 refine aN (yc ag ae hl1 hN hb hw1 (i := cur)) (fun v8 w8 D8 => ?_)
 obtain ⟨rfl, N8, U8⟩ := D8
 have aK := ae
 replace ag := U8.get ag (fun h => Own.aS aK ag (by decide) _ h rfl)
 replace ae := N8
 replace hF := hF.go U8 (fun i h hs => .inl hs)
 clear aK
 refine aN (UT ag ae hl2 hp hN hb hx) (fun v9 w9 D9 => ?_)
 obtain ⟨rfl, N9, U9⟩ := D9
 replace ae := ae.aF U9 (Own.aS ae (by assumption) (by decide))
 replace ag := N9
 replace hF := hF.go U9 (fun i _ h => .inr h)
 exact ⟨_, rfl, rfl, ag, ae, hF⟩
theorem jH {r0 c0 r1 c1 wh : Int} {bs : Nat} {bp : Nat} {w : World} (ay : Z.h w bs #[Z.i r0, Z.i c0, Z.i r1, Z.i c1, Z.i wh, Z.p bp] 89)  :
    oX 13 #[Z.p bs] w fun e w' => e = .returned (Z.p bp) ∧ aA no w w' := by
 refine F13.calls ?_
 unfold F13
 have hF : aA no w w := Fr.refl _ _ _
 refine dw ?_
 refine Z.f 5 ?_
 refine Z.l ay ?_
 exact ⟨rfl, hF⟩
theorem UU {r0 c0 r1 c1 wh : Int} {bs : Nat} {pv : Value} {w : World} (ay : Z.h w bs #[Z.i r0, Z.i c0, Z.i r1, Z.i c1, Z.i wh, pv] 89) (hz : (Gs.aZ r0 c0) ≠ 0) :
    oX 82 #[Z.p bs, Z.i 0] w fun e w' => ∃ v, e = .returned v ∧ ∃ bp g, Z.h w' bs #[Z.i r0, Z.i c0, Z.i r1, Z.i c1, Z.i 0, Z.p bp] 89 ∧ w.heap.size ≤ bp ∧ Z.h w' bp #[Z.i r0, Z.i c0, .slice (some ⟨g, 0, none⟩) (Gs.aZ r0 c0).toNat (Gs.aZ r0 c0).toNat, Z.i 0] 91 ∧ Own w.heap.size w' 37 5 (.slice (some ⟨g, 0, none⟩) (Gs.aZ r0 c0).toNat (Gs.aZ r0 c0).toNat) (rows Gs.cv (List.replicate (Gs.aZ r0 c0).toNat Gs.zc)) ∧ aA (· = bs) w w' := by
 refine PH.calls ?_
 unfold PH
 have hF : aA (· = bs) w w := Fr.refl _ _ _
 refine dw ?_
 refine Z.f 4 ?_
 refine Z.s ay (fun w1 ay _ U1 => ?_)
 replace hF := hF.go U1 (fun i _ h => h)
 refine dw ?_
 refine Z.f 0 ?_
 refine ak (Gh (n := 2) (m := 2) (by kernel_rfl) (by omega) (by omega)) ?_
 refine Z.b 2 _ ay ?_
 refine aN (yz (r := r0) (c := c0) hz) (fun v2 w2 D2 => ?_)
 obtain ⟨bp, g, rfl, gbp, ag, ae, U2⟩ := D2
 have tY : bs ≠ bp := by have := au ay; omega
 have qJ : w.heap.size ≤ bp := by have := hF.size; omega
 replace ae := ae.mono (B' := w.heap.size) hF.size
 refine Z.e ?_
 refine Z.e ?_
 refine dw ?_
 refine Z.f 5 ?_
 replace ay := U2.af ay
 refine Z.s ay (fun w3 ay _ U3 => ?_)
 replace ae := ae.aF U3 (Own.aS ae (by assumption) (by decide))
 replace hF := hF.go0 U2
 replace hF := hF.go U3 (fun i _ h => h)
 replace ag := U3.aj ag (Ne.symm tY)
 exact ⟨_, rfl, bp, g, ay, qJ, ag, ae, hF⟩
theorem VT {r0 c0 r1 c1 wh : Int} {bs : Nat} {pv : Value} {w : World} (ay : Z.h w bs #[Z.i r0, Z.i c0, Z.i r1, Z.i c1, Z.i wh, pv] 89) (hz : (Gs.aZ r0 c0) ≠ 0) :
    oX 44 #[Z.p bs] w fun e w' => ∃ v, e = .returned v ∧ ∃ bp g, Z.h w' bs #[Z.i r0, Z.i c0, Z.i r1, Z.i c1, Z.i 0, Z.p bp] 89 ∧ w.heap.size ≤ bp ∧ Z.h w' bp #[Z.i r0, Z.i c0, .slice (some ⟨g, 0, none⟩) (Gs.aZ r0 c0).toNat (Gs.aZ r0 c0).toNat, Z.i 0] 91 ∧ Own w.heap.size w' 37 5 (.slice (some ⟨g, 0, none⟩) (Gs.aZ r0 c0).toNat (Gs.aZ r0 c0).toNat) (rows Gs.cv (List.replicate (Gs.aZ r0 c0).toNat Gs.zc)) ∧ aA (· = bs) w w' := by
 refine Wn.calls ?_
 unfold Wn
 have hF : aA (· = bs) w w := Fr.refl _ _ _
 refine aN (UU ay hz) (fun v1 w1 D1 => ?_)
 obtain ⟨bp, g, N1, gbp, ag, ae, U1⟩ := D1
 have qJ : w.heap.size ≤ bp := by have := hF.size; omega
 replace ae := ae.mono (B' := w.heap.size) hF.size
 replace ay := N1
 replace hF := hF.go U1 (fun i _ h => h)
 exact ⟨_, rfl, bp, g, ay, qJ, ag, ae, hF⟩
theorem Nb {r0 c0 r1 c1 : Int} {w : World} (hz : (Gs.aZ r0 c0) ≠ 0) (hz1 : Gs.aZ r1 c1 ≠ 0) :
    oX 12 #[.agg #[Z.i r0, Z.i c0], .agg #[Z.i r1, Z.i c1]] w fun e w' => ∃ v, e = .returned v ∧ ∃ bs bp g, v = .tuple #[Z.p bs, Z.i 0] ∧ w.heap.size ≤ bs ∧ w.heap.size ≤ bp ∧ Z.h w' bs #[Z.i r0, Z.i c0, Z.i r1, Z.i c1, Z.i 0, Z.p bp] 89 ∧ Z.h w' bp #[Z.i r0, Z.i c0, .slice (some ⟨g, 0, none⟩) (Gs.aZ r0 c0).toNat (Gs.aZ r0 c0).toNat, Z.i 0] 91 ∧ Own w.heap.size w' 37 5 (.slice (some ⟨g, 0, none⟩) (Gs.aZ r0 c0).toNat (Gs.aZ r0 c0).toNat) (rows Gs.cv (List.replicate (Gs.aZ r0 c0).toNat Gs.zc)) ∧ aA no w w' := by
 refine Wl.calls ?_
 unfold Wl
 have hF : aA no w w := Fr.refl _ _ _
 refine Z.x (#[Z.i r0, Z.i c0]) (fun b1 w1 e1 ah _ U1 => ?_)
 refine Z.x (#[Z.i r1, Z.i c1]) (fun b2 w2 e2 ax _ U2 => ?_)
 replace ah := U2.af ah
 refine Z.b 2 (#[Z.i r0, Z.i c0]) ah ?_
 refine aB (qA (r := r0) (c := c0)) (fun w3 U3 => ?_)
 refine ny (cZ _ _ _ _ _) (hz) ?_
 refine bD ?_
 replace ax := U3.af ax
 refine Z.b 2 (#[Z.i r1, Z.i c1]) ax ?_
 refine bD ?_
 refine aB (qA (r := r1) (c := c1)) (fun w4 U4 => ?_)
 refine bD ?_
 refine ny (cZ _ _ _ _ _) (hz1) ?_
 refine aU (aC ?_)
 replace ah := U4.af (U3.af ah)
 refine Z.b 2 (#[Z.i r0, Z.i c0]) ah ?_
 replace ax := U4.af ax
 refine Z.b 2 (#[Z.i r1, Z.i c1]) ax ?_
 refine ak (sQ (n := 2) (m := 2) (z := #[Z.i 0, Z.i 0, Z.i 0, Z.i 0]) (by kernel_rfl) (by kernel_rfl) (by (simp [eP, splice, gu, Value.cells]; rfl))) ?_
 refine ak (bG (l := [(0, 4), (4, 1), (5, 1)]) (z := #[Z.i 0, Z.i 0, Z.i 0, Z.i 0, Z.i 0, .pointer none]) (cs := [Z.i r0, Z.i c0, Z.i r1, Z.i c1, Z.i 0, .pointer none]) (by kernel_rfl) (by rfl)) ?_
 refine Z.x (#[Z.i r0, Z.i c0, Z.i r1, Z.i c1, Z.i 0, .pointer none]) (fun b7 w7 e7 kW _ U7 => ?_)
 replace hF := (((hF.go0 U1).go0 U2).go0 U3).go0 U4
 have uH : w.heap.size ≤ b7 := by have := hF.size; omega
 refine aN (VT kW hz) (fun v8 w8 D8 => ?_)
 obtain ⟨bp, g, N8, gbp, ag, ae, U8⟩ := D8
 replace hF := hF.go0 U7
 have qJ : w.heap.size ≤ bp := by have := hF.size; omega
 replace ae := ae.mono (B' := w.heap.size) hF.size
 replace kW := N8
 replace hF := hF.go1 U8 uH
 exact ⟨_, rfl, _, bp, g, rfl, uH, qJ, kW, ag, ae, hF⟩
theorem adK {bs : Nat} {w : World} :
    oX 15 #[Z.p bs] w fun e w' => ∃ v, e = .returned v ∧ ∃ bk, v = Z.p bk ∧ w.heap.size ≤ bk ∧ Z.h w' bk #[Z.p bs, Z.i 0, Z.i 0, Z.i 0, .bool false, Z.u 96] 95 ∧ aA no w w' := by
 refine F15.calls ?_
 unfold F15
 have hF : aA no w w := Fr.refl _ _ _
 refine ak (bG (l := [(0, 1), (1, 3), (4, 1), (5, 1)]) (z := #[.pointer none, Z.i 0, Z.i 0, Z.i 0, .bool false, Z.u 0]) (cs := [Z.p bs, Z.i 0, Z.i 0, Z.i 0, .bool false, Z.u 96]) (by kernel_rfl) (by rfl)) ?_
 refine Z.x (#[Z.p bs, Z.i 0, Z.i 0, Z.i 0, .bool false, Z.u 96]) (fun b2 w2 e2 ax _ U2 => ?_)
 have eQ : w.heap.size ≤ b2 := by have := hF.size; omega
 replace hF := hF.go0 U2
 exact ⟨_, rfl, _, rfl, eQ, ax, hF⟩
theorem xM {bk bs : Nat} {st why tn last : Int} {ins : Bool} {w : World} (aG : Z.h w bk #[Z.p bs, Z.i st, Z.i why, Z.i tn, .bool ins, Z.u last] 95)  :
    oX 16 #[Z.p bk] w fun e w' => e = .returned (.pointer (some ⟨bk, 1, none⟩)) ∧ aA no w w' := by
 refine F16.calls ?_
 unfold F16
 have hF : aA no w w := Fr.refl _ _ _
 refine dw ?_
 refine Z.f 1 ?_
 exact ⟨rfl, hF⟩
end Go.Proofs.YtjdoakbadehicaaGreatDoor
end
section
namespace Gs
open Go Go.Sh
section
variable {cs : List Cell} {z : Nat} {l : List Int}
def aeq (cs : List Cell) (i x : Int) : List Cell := o5 (jb cs i ⟨x, false, false, (bV cs i).l, (bV cs i).c⟩) i
theorem qp.put (h : qp cs z l) (hl : l.length < z) {i : Int} (hi : i = (l.length : Int) + 1) (x : Int) : qp (aeq cs i x) z (l ++ [x]) := by
 subst hi
 have := h.2.2.2.1 ((l.length : Int) + 1) (by omega)
 unfold aeq
 rw [this]
 exact h.step hl x
theorem qp.next (h : qp cs z l) (hl : l.length + 2 ≤ z) {i : Int} (hi : i = (l.length : Int) + 1) (x : Int) : (bV (aeq cs i x) ((i + 1) % ((z + 3 : Nat) : Int))).st = false := by
 have h2 := h.put (by omega) hi x
 rw [Int.emod_eq_of_lt (by omega) (by omega)]
 exact h2.st (by simp only [List.length_append, List.length_cons, List.length_nil]; omega) (by omega)
end
end Gs
end
section
namespace Gs
open Go Go.Sh
def Pw (r c : Int) (n : Nat) (cs : List Cell) (cur : Int) : Prop := n = cs.length ∧ jh cs ∧ (0 ≤ cur ∧ cur < n) ∧ 0 < n ∧ aZ r c = n ∧ n ≤ 4096
section
variable {r c cur : Int} {n : Nat} {cs : List Cell}
theorem Pw.set (h : Pw r c n cs cur) (i : Int) {x : Cell} (hx : Cw x) : Pw r c n (jb cs i x) cur := ⟨by rw [mi]; exact h.1, h.2.1.jb hx i, h.2.2⟩
theorem Pw.mark (h : Pw r c n cs cur) (i : Int) : Pw r c n (o5 cs i) cur := ⟨by rw [PE]; exact h.1, agz h.2.1 i, h.2.2⟩
theorem Pw.unm (h : Pw r c n cs cur) (l : List Nat) : Pw r c n (qP cs l) cur := ⟨by rw [← ED]; exact h.1, QZ h.2.1 l, h.2.2⟩
theorem Pw.at (h : Pw r c n cs cur) {i : Int} (hi : 0 ≤ i ∧ i < n) : Pw r c n cs i := ⟨h.1, h.2.1, hi, h.2.2.2⟩
theorem Pw.fill (h : Pw r c n cs cur) (l : List Int) {x : Cell} (hx : Cw x) : Pw r c n (su cs l x) cur := ⟨by rw [SV]; exact h.1, h.2.1.fill hx l, h.2.2⟩
theorem Pw.rc (h : Pw r c n cs cur) : 1 ≤ r ∧ r ≤ 43 ∧ 1 ≤ c ∧ c ≤ 132 ∧ r * c = n := by
 have hN := h.2.2.2.2.1
 have hp := h.2.2.2.1
 unfold aZ at hN
 split at hN
 ·omega
 ·rename_i hh
  exact ⟨by omega, by omega, by omega, by omega, hN⟩
end
def Kp (cs cs' : List Cell) : Prop := cs'.length = cs.length ∧ ∀ i : Int, stB cs' i = stB cs i ∧ (stB cs i = true → bV cs' i = bV cs i)
theorem Kp.refl (cs : List Cell) : Kp cs cs := ⟨rfl, fun _ => ⟨rfl, fun _ => rfl⟩⟩
theorem Yn (cs : List Cell) (i j : Int) (x : Cell) : bV (jb cs i x) j = if i = j ∧ 0 ≤ i ∧ i < cs.length then x else bV cs j := by
 by_cases hi : 0 ≤ i ∧ i < cs.length
 ·by_cases hj : 0 ≤ j ∧ j < cs.length
  ·rw [Iy hi hj]
   by_cases e : i = j
   ·rw [if_pos e, if_pos ⟨e, hi⟩]
   ·rw [if_neg e, if_neg (fun h => e h.1)]
  ·rw [xh (by rw [mi]; exact hj), xh hj, if_neg (by omega)]
 ·rw [KG x hi, if_neg (fun h => hi h.2)]
theorem Kp.set {cs cs' : List Cell} (h : Kp cs cs') {i : Int} {x : Cell} (hi : stB cs i = false) (hx : x.st = false) : Kp cs (jb cs' i x) := by
 refine ⟨by rw [mi]; exact h.1, fun j => ?_⟩
 show (bV (jb cs' i x) j).st = _ ∧ _
 rw [Yn]
 by_cases e : i = j ∧ 0 ≤ i ∧ i < cs'.length
 ·rw [if_pos e]
  obtain ⟨rfl, _⟩ := e
  exact ⟨by rw [hx, hi], fun h => by rw [hi] at h; cases h⟩
 ·rw [if_neg e]; exact h.2 j
def Mk (cs cs' : List Cell) (i : Int) : Prop := ∃ c1, Kp cs c1 ∧ cs' = o5 c1 i
def uJ (cs : List Cell) (l : List Int) : Prop := ∀ x ∈ l, (0 ≤ x ∧ x < cs.length) ∧ stB cs x = false
theorem uJ.nil (cs : List Cell) : uJ cs [] := fun _ h => by cases h
theorem uJ.snoc {cs : List Cell} {l : List Int} (h : uJ cs l) {x : Int} (hx : (0 ≤ x ∧ x < cs.length) ∧ stB cs x = false) : uJ cs (l ++ [x]) := fun y hy => by
 rcases List.mem_append.1 hy with hy | hy
 ·exact h y hy
 ·cases List.mem_singleton.1 hy; exact hx
theorem uJ.get {cs : List Cell} {l : List Int} (h : uJ cs l) {k : Nat} {x : Int} (hx : l[k]? = some x) : (0 ≤ x ∧ x < cs.length) ∧ stB cs x = false := h x (List.mem_of_getElem? hx)
theorem Su {cs : List Cell} {i : Int} (hi : 0 ≤ i ∧ i < cs.length) (h : lZ cs i = false) {j : Int} (hj : 0 ≤ j ∧ j < cs.length) : (0 ≤ j ∧ j < cs.length) ∧ stB cs j = false :=
 ⟨hj, Om hi (by have := of_decide_eq_false h; exact Classical.not_not.1 this) j hj⟩
theorem Yj {cs : List Cell} {i : Int} (h : lZ cs i = true) : ¬ gz cs i < 0 ∧ l7 cs i = kC cs (gz cs i) := by
 have := of_decide_eq_true h
 exact ⟨this, by unfold l7; rw [if_neg this]⟩
theorem aiA {cs : List Cell} {i : Int} (hi : 0 ≤ i ∧ i < cs.length) (h : lZ cs i = true) : ∃ k : Nat, (allM cs)[k]? = some (l7 cs i) := by
 obtain ⟨h1, h2⟩ := Yj h
 obtain ⟨h3, h4, h5, _⟩ := SX hi h1
 have hm : l7 cs i ∈ allM cs := by
  rw [h2]
  exact List.mem_map.2 ⟨_, DY.2 ⟨⟨h3, h4⟩, h5⟩, rfl⟩
 exact List.getElem?_of_mem hm
theorem row_in {cs : List Cell} {i : Int} (hi : 0 ≤ i ∧ i < cs.length) (h : lZ cs i = true) {k : Nat} {x : Int} (hx : (iy cs.length (l7 cs i))[k]? = some x) : (0 ≤ x ∧ x < cs.length) ∧ stB cs x = false := by
 obtain ⟨q, hq⟩ := aiA hi h
 exact ⟨FD hx, PG hq x (List.mem_of_getElem? hx)⟩
theorem aiv {cs : List Cell} {i : Int} (ho : jX cs i = true) (h : lZ cs i = true) : ∃ j : Nat, (iy cs.length (l7 cs i))[j]? = some i := by
 have hi := L9 ho
 obtain ⟨h1, h2⟩ := Yj h
 obtain ⟨h3, h4, h5, j, hj, hx⟩ := SX hi h1
 have hne : gz cs i ≠ i := by
  unfold jX at ho
  rw [if_neg h1] at ho
  exact of_decide_eq_true ((Bool.and_eq_true _ _).mp ho).1
 obtain ⟨L, q1, q2, _⟩ := len_eq ⟨h3, h4⟩ h5
 have hj1 : 1 ≤ j := by
  rcases Nat.eq_zero_or_pos j with rfl | hh
  ·exfalso; rw [Int.natCast_zero, Int.add_zero, Int.emod_eq_of_lt h3 h4] at hx; exact hne hx.symm
  ·exact hh
 rw [h2]
 have hs : (kC cs (gz cs i)).s = gz cs i := rfl
 have hl : (kC cs (gz cs i)).l = vC cs (gz cs i) := rfl
 have hpl := tK (N := cs.length) (f := kC cs (gz cs i)) (by rw [hs]; exact ⟨h3, h4⟩)
 refine ⟨j - 1, ?_⟩
 rw [xC (by rw [hl] at hpl; omega), hs, show (j - 1 + 1 : Nat) = j by omega, ← hx]
theorem Mk.of {cs : List Cell} {i : Int} {x : Cell} (hi : stB cs i = false) (hx : x.st = false) {c1 : List Cell} (h : Kp cs c1) : Mk cs (o5 (jb c1 i x) i) i := ⟨_, h.set hi hx, rfl⟩
theorem agw {cs : List Cell} {i : Int} (h : jX cs i = true) : stB cs i = false := by
 have hi := L9 h
 cases hs : stB cs i with
 | false => rfl
 | true =>
  exfalso
  unfold jX at h
  rw [SY hi hs, if_neg (by omega)] at h
  simp at h
theorem agt (i : Int) {r : Int} (hr : 1 ≤ r) (hi : -1 ≤ i ∧ i ≤ 1) : -1 ≤ Int.tmod i r ∧ Int.tmod i r ≤ 1 := by
 have h : i = -1 ∨ i = 0 ∨ i = 1 := by omega
 rcases h with rfl | rfl | rfl
 ·by_cases h1 : r = 1
  ·subst h1; decide
  ·rw [Int.neg_tmod, Int.tmod_eq_emod_of_nonneg (by decide), Int.emod_eq_of_lt (by decide) (by omega)]; decide
 ·rw [Int.zero_tmod]; decide
 ·by_cases h1 : r = 1
  ·subst h1; decide
  ·rw [Int.tmod_eq_emod_of_nonneg (by decide), Int.emod_eq_of_lt (by decide) (by omega)]; decide
theorem ain {a : Int} (h : -1 ≤ a ∧ a ≤ 1) (c : Int) : a * c = -c ∨ a * c = 0 ∨ a * c = c := by
 have h : a = -1 ∨ a = 0 ∨ a = 1 := by omega
 rcases h with rfl | rfl | rfl
 ·left; omega
 ·right; left; omega
 ·right; right; omega
end Gs
namespace Gs
theorem Yo {cs cs' : List Cell} (hl : cs'.length = cs.length) (hs : ∀ i : Int, stB cs' i = stB cs i) (a s : Int) : lC cs' a s = lC cs a s := by
 unfold lC AL
 simp only [hl, hs]
theorem Kp.SI {cs cs' : List Cell} (h : Kp cs cs') (i : Int) : gz cs' i = gz cs i := Yo h.1 (fun j => (h.2 j).1) _ _
theorem Mk.free {cs c1 : List Cell} {i : Int} (h : Kp cs c1) (ho : lZ cs i = false) : Mk cs c1 i :=
 ⟨c1, h, by rw [Oo]; rw [h.SI]; have := of_decide_eq_false ho; exact Classical.not_not.1 this⟩
theorem Kp.trans {a b c : List Cell} (h : Kp a b) (k : Kp b c) : Kp a c := ⟨k.1.trans h.1, fun i => ⟨(k.2 i).1.trans (h.2 i).1, fun hi => ((k.2 i).2 ((h.2 i).1.trans hi)).trans ((h.2 i).2 hi)⟩⟩
theorem Kp.fill {cs : List Cell} {x : Cell} (hx : x.st = false) : ∀ {l : List Int} {c1 : List Cell}, Kp cs c1 → (∀ i ∈ l, (0 ≤ i ∧ i < cs.length) ∧ stB cs i = false) → Kp cs (su c1 l x)
 | [], _, h, _ => h
 | i :: l, c1, h, hl => by
  have hi := hl i (List.mem_cons_self ..)
  show Kp cs (su (c1.set i.toNat x) l x)
  rw [← Jl x hi.1.1 (by rw [h.1]; exact hi.1.2)]
  exact Kp.fill hx (h.set hi.2 hx) fun j hj => hl j (List.mem_cons_of_mem _ hj)
def nV (cs : List Cell) (l : List Nat) : List Cell := l.foldl (fun c (s : Nat) => if qI (kC cs s).a = true then c else qQ false c s) cs
theorem FM {cs : List Cell} {l : List Nat} {k s : Nat} (h : l[k]? = some s) : nV cs (l.take (k + 1)) = if qI (kC cs s).a = true then nV cs (l.take k) else qQ false (nV cs (l.take k)) s := by
 unfold nV; rw [List.take_add_one, h]; simp [List.foldl_append]
theorem Oq {P : List Cell → Prop} {cs : List Cell} (h0 : P cs) (hs : ∀ c s, P c → P (qQ false c s)) (l : List Nat) : P (nV cs l) := by
 have : ∀ (l : List Nat) (c : List Cell), P c → P (l.foldl (fun c (s : Nat) => if qI (kC cs s).a = true then c else qQ false c s) c) := by
  intro l
  induction l with
  | nil => exact fun _ h => h
  | cons s l ih => exact fun c h => ih _ (by show P (if _ then _ else _); split; exact h; exact hs c s h)
 exact this l cs h0
theorem uB (cs : List Cell) (l : List Nat) : cs.length = (nV cs l).length := (Oq (P := fun c => c.length = cs.length) rfl (fun c s h => by rw [BQ]; exact h) l).symm
theorem AC {cs : List Cell} (h : jh cs) (l : List Nat) : jh (nV cs l) := Oq h (fun c s h => S9 h s) l
theorem Mc (cs : List Cell) (l : List Nat) (i : Int) : stB (nV cs l) i = stB cs i := Oq (P := fun c => stB c i = stB cs i) rfl (fun c s h => by rw [Tc]; exact h) l
theorem agA {cs : List Cell} {s : Nat} {l : List Nat} (h : s ∉ l) : bV (nV cs l) s = bV cs s := by
 have : ∀ (l : List Nat) (c : List Cell), s ∉ l → bV (l.foldl (fun c (s : Nat) => if qI (kC cs s).a = true then c else qQ false c s) c) s = bV c s := by
  intro l
  induction l with
  | nil => exact fun _ _ => rfl
  | cons t l ih =>
   intro c hs
   have ht : s ≠ t := fun e => hs (by rw [e]; exact List.mem_cons_self ..)
   rw [List.foldl_cons, ih _ (fun hm => hs (List.mem_cons_of_mem _ hm))]
   split
   ·rfl
   ·rw [yV, if_neg (fun hh => ht (by have := hh.1; omega))]
 exact this l cs h
theorem FN {cs : List Cell} {k s : Nat} (hx : (bU cs)[k]? = some s) : (kC (nV cs ((bU cs).take k)) s).a = (kC cs s).a := by
 show (bV _ _).b % 64 = (bV _ _).b % 64
 rw [agA (JP hx)]
theorem Pw.opn {r c cur : Int} {n : Nat} {cs : List Cell} (h : Pw r c n cs cur) (l : List Nat) : Pw r c n (nV cs l) cur := ⟨by rw [← uB]; exact h.1, AC h.2.1 l, h.2.2⟩
end Gs
namespace Go.Sh
open Go
theorem aiw {k : Nat} {v v' : Value} (h : v = .int .i64 k) (h' : v' = .int .i64 ((k : Int) - 1)) (hk : 0 < k) : (RowKit.intOf v').toNat < (RowKit.intOf v).toNat := by
 subst h; subst h'
 simp only [RowKit.intOf]
 omega
theorem Yf {b : Nat} : ¬ aH (.slice none 0 0) b := fun h => by cases h
end Go.Sh
namespace Gs
theorem ac5 {N i j x : Int} (h : x ∈ qB N i j) : 0 ≤ x ∧ x < N := by
 obtain ⟨k, hk⟩ := List.getElem?_of_mem h
 exact Td hk
def ER (k q : Int) (cs c1 : List Cell) (cur cur1 : Int) : Prop :=
 ((k = 1 ∨ k = 10 ∨ k = 12 ∨ k = 14 ∨ k = 15) ∧ ((q = 0 ∧ jX cs cur = true ∧ Mk cs c1 cur) ∨ (q ≠ 0 ∧ c1 = cs ∧ cur1 = cur))) ∨ (k = 11 ∧ q = 0) ∨
  (¬ (k = 1 ∨ k = 10 ∨ k = 11 ∨ k = 12 ∨ k = 14 ∨ k = 15) ∧ q = 0 ∧ c1 = cs ∧ cur1 = cur)
end Gs
namespace Gs
def PR (k e st : Int) (cs c1 : List Cell) (cur : Int) : Prop :=
 k ≠ 11 → ((k = 1 ∨ k = 10 ∨ k = 12 ∨ k = 14 ∨ k = 15) ∧ e = 0 ∧ jX cs cur = true ∧ Mk cs c1 cur) ∨ (c1 = cs ∧ (e = 0 → st = 1 → ¬ (k = 1 ∨ k = 10 ∨ k = 12 ∨ k = 14 ∨ k = 15)))
theorem PR.keep {k e st : Int} {cs : List Cell} {cur : Int} (h : e = 0 → st = 1 → ¬ (k = 1 ∨ k = 10 ∨ k = 12 ∨ k = 14 ∨ k = 15)) : PR k e st cs cs cur := fun _ => .inr ⟨rfl, h⟩
theorem ER.pr {k q st : Int} {cs c1 : List Cell} {cur cur1 : Int} (h : ER k q cs c1 cur cur1) : PR k q st cs c1 cur := fun hk => by
 rcases h with ⟨h1, ⟨h2, h3, h4⟩ | ⟨h2, h3, _⟩⟩ | ⟨h1, _⟩ | ⟨h1, h2, h3, _⟩
 ·exact .inl ⟨h1, h2, h3, h4⟩
 ·exact .inr ⟨h3, fun h => absurd h h2⟩
 ·exact absurd h1 hk
 ·exact .inr ⟨h3, fun _ _ h => h1 (by omega)⟩
end Gs
end
section
namespace Go.Proofs.YtjdoakbadehicaaGreatDoor
open Go Go.Sh
set_option maxRecDepth 100000
theorem Vm {x : Int} {w : World} (hx : 0 ≤ x ∧ x ≤ 255) :
    oX 126 #[Z.u x] w fun e w' => e = .returned (.bool (decide (x / 32 % 2 = 1 ∧ x / 16 % 2 = 1))) ∧ aA no w w' := by
 refine X5.calls ?_
 unfold X5
 have hF : aA no w w := Fr.refl _ _ _
 refine dQ (mP hx) (fun w1 U1 h1 => ?_) (fun w1 U1 h1 => ?_)
 simp only [Z.d, Z.c] at h1
 refine aX (aX ?_)
 refine aB (yR hx) (fun w2 U2 => ?_)
 refine aT ?_
 replace hF := (hF.go0 U1).go0 U2
 exact ⟨yL (by omega), hF⟩
 simp only [Z.d, Z.c] at h1
 refine aQ (aQ (aU ?_))
 replace hF := hF.go0 U1
 exact ⟨KC (by omega), hF⟩
theorem Sj {r c i : Int} {w : World} (hi : 0 ≤ i ∧ i < Gs.aZ r c) (hc : 1 ≤ c ∧ c ≤ 132) (hb : i < 5000) :
    oX 132 #[.agg #[Z.i r, Z.i c], Z.i i] w fun e w' => e = .returned (.tuple #[Z.i (i / c), Z.i (i % c), .bool true]) ∧ aA no w w' := by
 refine X6.calls ?_
 unfold X6
 have hF : aA no w w := Fr.refl _ _ _
 refine Z.x (#[Z.i r, Z.i c]) (fun b1 w1 e1 ah _ U1 => ?_)
 refine ny (lss _ _ _ _) (by omega) ?_
 refine bD (bD ?_)
 refine Z.b 2 (#[Z.i r, Z.i c]) ah ?_
 refine bD ?_
 refine aB (qA (r := r) (c := c)) (fun w2 U2 => ?_)
 refine bD ?_
 refine ny (geq _ _ _ _) (by omega) ?_
 refine aU (aC ?_)
 refine dS (S := no) (fun w3 U3 => ?_)
 refine Z.g 1 ?_
 replace ah := U3.af (U2.af ah)
 refine Z.m ah ?_
 refine bJ (fun w' hw' => (amO _ (by omega) (by omega) (by omega))) ?_
 refine Z.g 1 ?_
 refine Z.m ah ?_
 refine bJ (fun w' hw' => (aim _ (by omega) (by omega) (by omega))) ?_
 refine aI (fun w4 U4 => ?_)
 replace hF := (((hF.go0 U1).go0 U2).go0 U3).go0 U4
 exact ⟨rfl, hF⟩
theorem Io {r c cur : Int} {A : Option Addr} {n cp bp B0 : Nat} {cs : List Gs.Cell} {w : World} (ag : Z.h w bp #[Z.i r, Z.i c, .slice A n cp, Z.i cur] 91) (ae : Own B0 w 37 5 (.slice A n cp) (rows Gs.cv cs)) (hW : Gs.Pw r c n cs cur) {i : Int} :
    oX 131 #[Z.p bp, Z.i i] w fun e w' => ∃ v, e = .returned v ∧ ∃ q : Bool, v = .bool q ∧ aA no w w' := by
 refine X7.calls ?_
 unfold X7
 obtain ⟨hn, hcw, hcu, hp, hN, hb⟩ := id hW; have hrc := hW.rc
 have hF : aA no w w := Fr.refl _ _ _
 refine aB (tu ag ae hn hN hb hcw (i := i)) (fun w1 U1 => ?_)
 cases hob : Gs.lZ cs i
 refine Z.e ?_
 refine Z.e ?_
 refine Z.n ((Gs.fv Gs.zf).toArray) (fun b2 w2 e2 ax _ U2 => ?_)
 replace hF := hF.go0 U1
 have eQ : w.heap.size ≤ b2 := by have := hF.size; omega
 refine Z.t 3 ((Gs.fv (Gs.l7 cs i)).toArray) (by (simp [Value.cells, Value.oneCell', Gs.cv, Gs.fv, Gs.ie]; done)) ax (fun w3 N3 _ U3 => ?_)
 refine aQ (aQ (aQ (aQ (aU (aQ (aQ (aQ (aU (aQ (aQ (aQ (aQ (aU ?_)))))))))))))
 replace hF := (hF.go0 U2).go1 U3 eQ
 exact ⟨_, rfl, _, rfl, hF⟩
 refine Z.e ?_
 refine Z.e ?_
 refine Z.n ((Gs.fv Gs.zf).toArray) (fun b5 w5 e5 bY _ U5 => ?_)
 replace hF := hF.go0 U1
 have ik : w.heap.size ≤ b5 := by have := hF.size; omega
 refine Z.t 3 ((Gs.fv (Gs.l7 cs i)).toArray) (by (simp [Value.cells, Value.oneCell', Gs.cv, Gs.fv, Gs.ie]; done)) bY (fun w6 bY _ U6 => ?_)
 refine aX ?_
 refine Z.f 0 ?_
 refine aX ?_
 refine Z.l bY ?_
 refine aX (aX ?_)
 refine az (cZ _ _ _ _ _) (fun h7 => ?_) (fun h7 => ?_)
 refine aT (aX ?_)
 refine Z.f 1 ?_
 refine aX ?_
 refine Z.l bY ?_
 refine aX ?_
 refine az (gtr _ _ _ _) (fun h8 => ?_) (fun h8 => ?_)
 refine aT (aX ?_)
 refine Z.f 2 ?_
 refine aX ?_
 refine Z.l bY ?_
 refine aX ?_
 refine aB (mP (Gs.X8 hcw i)) (fun w9 U9 => ?_)
 refine aX ?_
 refine ak (Ac _) ?_
 refine aT ?_
 replace hF := ((hF.go0 U5).go1 U6 ik).go0 U9
 exact ⟨_, rfl, _, rfl, hF⟩
 refine aT (aQ (aQ (aQ (aQ (aU ?_)))))
 replace hF := (hF.go0 U5).go1 U6 ik
 exact ⟨_, rfl, _, rfl, hF⟩
 refine aT (aQ (aQ (aQ (aU (aQ (aQ (aQ (aQ (aU ?_)))))))))
 replace hF := (hF.go0 U5).go1 U6 ik
 exact ⟨_, rfl, _, rfl, hF⟩
theorem ve {r c cur : Int} {A : Option Addr} {n cp bp B0 : Nat} {cs : List Gs.Cell} {w : World} (ag : Z.h w bp #[Z.i r, Z.i c, .slice A n cp, Z.i cur] 91) (ae : Own B0 w 37 5 (.slice A n cp) (rows Gs.cv cs)) (hW : Gs.Pw r c n cs cur) {i j : Int} (hi : 0 ≤ i ∧ i < n) (hj : j = 1 ∨ j = -1) :
    oX 130 #[Z.p bp, Z.i i, Z.i j] w fun e w' => ∃ v, e = .returned v ∧ ∃ x : Int, v = Z.i x ∧ (0 ≤ x ∧ x < n) ∧ aA no w w' := by
 refine X9.calls ?_
 unfold X9
 obtain ⟨hn, hcw, hcu, hp, hN, hb⟩ := id hW; have hrc := hW.rc
 have hF : aA no w w := Fr.refl _ _ _
 refine bM (fun g w' => (Z.h w' bp #[Z.i r, Z.i c, .slice A n cp, Z.i cur] 91) ∧ (Own B0 w' 37 5 (.slice A n cp) (rows Gs.cv cs)) ∧ (aA no w w')) (fun J1 hJ1 => ?_) (fun gJ1 jT hI => ?_)
 refine aB (fG ag ae hn) (fun w1 U1 => ?_)
 refine ed (fun g w' => ∃ (k : Nat), (g 11 = Z.i (k : Int)) ∧ (k ≤ n) ∧ (Z.h w' bp #[Z.i r, Z.i c, .slice A n cp, Z.i cur] 91) ∧ (Own B0 w' 37 5 (.slice A n cp) (rows Gs.cv cs)) ∧ (aA no w w')) (fun g w' => n - (RowKit.intOf (g 11)).toNat) ?_ (fun g2 qK hI => ?_)
 replace ae := ae.ai U1
 replace ag := U1.af ag
 replace hF := hF.go0 U1
 exact ⟨0, (by rfl), Nat.zero_le _, ag, ae, hF⟩
 replace ae := ae.ai U1
 replace ag := U1.af ag
 replace hF := hF.go0 U1
 obtain ⟨k, g11, hk, ag, ae, hF⟩ := hI
 rw [g11]
 refine az (lss _ _ _ _) (fun h2 => ?_) (fun h2 => ?_)
 refine aJ ?_
 have hkj : (k : Int) * j = k ∨ (k : Int) * j = -(k : Int) := by rcases hj with rfl | rfl <;> omega
 refine ak (Ez _ (by omega)) ?_
 refine aB (kD ag ae hn hp hN hb) (fun w3 U3 => ?_)
 replace ae := ae.ai U3
 replace ag := U3.af ag
 refine aN (Io ag ae hW) (fun v4 w4 D4 => ?_)
 obtain ⟨q22, rfl, U4⟩ := D4
 refine jQ (fun h5 => ?_) (fun h5 => ?_)
 replace ae := ae.ai U4
 replace ag := U4.af ag
 refine aB (kD ag ae hn hp hN hb) (fun w6 U6 => ?_)
 replace hF := ((hF.go0 U3).go0 U4).go0 U6
 exact ⟨_, rfl, _, rfl, Gs.jR _ hp, hF⟩
 refine ak (dK _ (by omega)) ?_
 replace hF := (hF.go0 U3).go0 U4
 replace ae := ae.ai U4
 replace ag := U4.af ag
 exact ⟨⟨k + 1, (by rfl), by omega, ag, ae, hF⟩, cnt_lt (by rfl) rfl (by omega)⟩
 refine aC ?_
 refine hJ1 _ _ ?_
 exact ⟨ag, ae, hF⟩
 obtain ⟨ag, ae, hF⟩ := hI
 exact ⟨_, rfl, _, rfl, by omega, hF⟩
theorem DW {r c cur : Int} {A : Option Addr} {n cp bp B0 : Nat} {cs : List Gs.Cell} {w : World} (ag : Z.h w bp #[Z.i r, Z.i c, .slice A n cp, Z.i cur] 91) (ae : Own B0 w 37 5 (.slice A n cp) (rows Gs.cv cs)) (hW : Gs.Pw r c n cs cur)  :
    oX 84 #[Z.p bp] w fun e w' => ∃ v, e = .returned v ∧ ∃ cur, v = Z.i cur ∧ Gs.Pw r c n cs cur ∧ Z.h w' bp #[Z.i r, Z.i c, .slice A n cp, Z.i cur] 91 ∧ aA (· = bp) w w' := by
 refine F84.calls ?_
 unfold F84
 obtain ⟨hn, hcw, hcu, hp, hN, hb⟩ := id hW; have hrc := hW.rc
 have hF : aA (· = bp) w w := Fr.refl _ _ _
 refine aB (eF ag ae hn) (fun w1 U1 => ?_)
 replace ae := ae.ai U1
 replace ag := U1.af ag
 refine aN (ve ag ae hW (i := cur) (j := 1) hcu (.inl rfl)) (fun v2 w2 D2 => ?_)
 obtain ⟨x7, rfl, hx7, U2⟩ := D2
 replace ae := ae.ai U2
 replace ag := U2.af ag
 refine aN (lN ag ae hn (i := x7) (by omega)) (fun v3 w3 D3 => ?_)
 obtain ⟨rfl, N3, U3⟩ := D3
 replace ag := N3
 replace hF := (hF.go0 U1).go0 U2
 replace hF := hF.go U3 (fun i _ h => h)
 exact ⟨_, rfl, _, rfl, hW.at (by omega), ag, hF⟩
theorem Sl {r c cur : Int} {A : Option Addr} {n cp bp B0 : Nat} {cs : List Gs.Cell} {w : World} (ag : Z.h w bp #[Z.i r, Z.i c, .slice A n cp, Z.i cur] 91) (ae : Own B0 w 37 5 (.slice A n cp) (rows Gs.cv cs)) (hW : Gs.Pw r c n cs cur)  :
    oX 85 #[Z.p bp] w fun e w' => ∃ v, e = .returned v ∧ ∃ cur, v = Z.i cur ∧ Gs.Pw r c n cs cur ∧ Z.h w' bp #[Z.i r, Z.i c, .slice A n cp, Z.i cur] 91 ∧ aA (· = bp) w w' := by
 refine F85.calls ?_
 unfold F85
 obtain ⟨hn, hcw, hcu, hp, hN, hb⟩ := id hW; have hrc := hW.rc
 have hF : aA (· = bp) w w := Fr.refl _ _ _
 refine aB (eF ag ae hn) (fun w1 U1 => ?_)
 replace ae := ae.ai U1
 replace ag := U1.af ag
 refine aB (tu ag ae hn hN hb hcw) (fun w2 U2 => ?_)
 cases hob : Gs.lZ cs cur
 refine Z.e ?_
 refine Z.e ?_
 refine Z.n ((Gs.fv Gs.zf).toArray) (fun b3 w3 e3 bC _ U3 => ?_)
 replace ag := U2.af ag
 have lH : bp ≠ b3 := by have := au ag; omega
 replace ae := ae.ai U2
 have iQ := ae.apart e3
 replace hF := (hF.go0 U1).go0 U2
 have jF : w.heap.size ≤ b3 := by have := hF.size; omega
 refine Z.t 3 ((Gs.fv (Gs.l7 cs cur)).toArray) (by (simp [Value.cells, Value.oneCell', Gs.cv, Gs.fv, Gs.ie]; done)) bC (fun w4 N4 _ U4 => ?_)
 refine aQ (aQ (aQ (aQ (aU (aQ (aQ (aQ (aQ (aU (aQ (aQ (aQ (aQ (aQ (aQ (aU (aC ?_)))))))))))))))))
 replace ae := (ae.ai U3).aF U4 iQ
 replace ag := U4.aj (U3.af ag) lH
 refine aB (kD ag ae hn hp hN hb) (fun w5 U5 => ?_)
 have := Gs.jR (cur + -2) (N := n) hp
 replace ae := ae.ai U5
 replace ag := U5.af ag
 refine aN (ve ag ae hW (i := (cur + -2) % (n : Int)) (j := -1) this (.inr rfl)) (fun v6 w6 D6 => ?_)
 obtain ⟨Sm, rfl, ac4, U6⟩ := D6
 replace ae := ae.ai U6
 replace ag := U6.af ag
 refine aN (lN ag ae hn (i := Sm) (by omega)) (fun v7 w7 D7 => ?_)
 obtain ⟨rfl, N7, U7⟩ := D7
 replace ag := N7
 replace hF := (((hF.go0 U3).go1 U4 jF).go0 U5).go0 U6
 replace hF := hF.go U7 (fun i _ h => h)
 exact ⟨_, rfl, _, rfl, hW.at (by omega), ag, hF⟩
 refine Z.e ?_
 refine Z.e ?_
 refine Z.n ((Gs.fv Gs.zf).toArray) (fun b9 w9 e9 je _ U9 => ?_)
 replace ag := U2.af ag
 have FB : bp ≠ b9 := by have := au ag; omega
 replace ae := ae.ai U2
 have zo := ae.apart e9
 replace hF := (hF.go0 U1).go0 U2
 have pX : w.heap.size ≤ b9 := by have := hF.size; omega
 refine Z.t 3 ((Gs.fv (Gs.l7 cs cur)).toArray) (by (simp [Value.cells, Value.oneCell', Gs.cv, Gs.fv, Gs.ie]; done)) je (fun w10 je _ aY => ?_)
 refine aX (aX ?_)
 refine Z.f 0 ?_
 refine aX ?_
 refine Z.l je ?_
 refine aX ?_
 replace ae := (ae.ai U9).aF aY zo
 replace ag := aY.aj (U9.af ag) FB
 refine aN (Io ag ae hW) (fun v11 nR D11 => ?_)
 obtain ⟨q19, rfl, bK⟩ := D11
 cases hq19 : q19
 refine aT (aQ (aQ (aQ (aQ (aU (aQ (aQ (aQ (aQ (aQ (aQ (aU (aC ?_)))))))))))))
 replace ae := ae.ai bK
 replace ag := bK.af ag
 refine aB (kD ag ae hn hp hN hb) (fun w12 di => ?_)
 have := Gs.jR (cur + -2) (N := n) hp
 replace ae := ae.ai di
 replace ag := di.af ag
 refine aN (ve ag ae hW (i := (cur + -2) % (n : Int)) (j := -1) this (.inr rfl)) (fun v13 vY D13 => ?_)
 obtain ⟨Sm, rfl, ac4, dI⟩ := D13
 replace ae := ae.ai dI
 replace ag := dI.af ag
 refine aN (lN ag ae hn (i := Sm) (by omega)) (fun v14 sO D14 => ?_)
 obtain ⟨rfl, N14, dC⟩ := D14
 replace ag := N14
 replace hF := ((((hF.go0 U9).go1 aY pX).go0 bK).go0 di).go0 dI
 replace hF := hF.go dC (fun i _ h => h)
 exact ⟨_, rfl, _, rfl, hW.at (by omega), ag, hF⟩
 refine aT (aX (aX ?_))
 refine Z.f 0 ?_
 refine aX ?_
 replace je := bK.af je
 refine Z.l je ?_
 refine aX ?_
 refine az (kR _ _ _ _ _) (fun h16 => ?_) (fun h16 => ?_)
 refine aT (aX (aX (aX ?_)))
 refine Z.f 0 ?_
 refine aX ?_
 refine Z.l je ?_
 refine aX ?_
 replace ae := ae.ai bK
 replace ag := bK.af ag
 refine aB (kD ag ae hn hp hN hb) (fun uS df => ?_)
 refine aX ?_
 refine az (kR _ _ _ _ _) (fun h18 => ?_) (fun h18 => ?_)
 refine aT (aJ ?_)
 refine Z.f 0 ?_
 replace je := df.af je
 refine Z.l je ?_
 replace ae := ae.ai df
 replace ag := df.af ag
 refine aB (kD ag ae hn hp hN hb) (fun Ar fC => ?_)
 have := Gs.jR ((Gs.l7 cs cur).s + 1) (N := n) hp
 replace ae := ae.ai fC
 replace ag := fC.af ag
 refine aN (lN ag ae hn (i := ((Gs.l7 cs cur).s + 1) % (n : Int)) (by omega)) (fun v20 xu D20 => ?_)
 obtain ⟨rfl, N20, dR⟩ := D20
 replace ag := N20
 replace hF := ((((hF.go0 U9).go1 aY pX).go0 bK).go0 df).go0 fC
 replace hF := hF.go dR (fun i _ h => h)
 exact ⟨_, rfl, _, rfl, hW.at (by omega), ag, hF⟩
 refine aT (aC ?_)
 replace ae := ae.ai df
 replace ag := df.af ag
 refine aB (kD ag ae hn hp hN hb) (fun Ht gQ => ?_)
 have := Gs.jR (cur + -2) (N := n) hp
 replace ae := ae.ai gQ
 replace ag := gQ.af ag
 refine aN (ve ag ae hW (i := (cur + -2) % (n : Int)) (j := -1) this (.inr rfl)) (fun v23 Eu D23 => ?_)
 obtain ⟨Sm, rfl, ac4, iZ⟩ := D23
 replace ae := ae.ai iZ
 replace ag := iZ.af ag
 refine aN (lN ag ae hn (i := Sm) (by omega)) (fun v24 Pm D24 => ?_)
 obtain ⟨rfl, N24, jA⟩ := D24
 replace ag := N24
 replace hF := (((((hF.go0 U9).go1 aY pX).go0 bK).go0 df).go0 gQ).go0 iZ
 replace hF := hF.go jA (fun i _ h => h)
 exact ⟨_, rfl, _, rfl, hW.at (by omega), ag, hF⟩
 refine aT (aQ (aQ (aQ (aQ (aQ (aQ (aU (aC ?_))))))))
 replace ae := ae.ai bK
 replace ag := bK.af ag
 refine aB (kD ag ae hn hp hN hb) (fun LH iW => ?_)
 have := Gs.jR (cur + -2) (N := n) hp
 replace ae := ae.ai iW
 replace ag := iW.af ag
 refine aN (ve ag ae hW (i := (cur + -2) % (n : Int)) (j := -1) this (.inr rfl)) (fun v27 Ij D27 => ?_)
 obtain ⟨Sm, rfl, ac4, gm⟩ := D27
 replace ae := ae.ai gm
 replace ag := gm.af ag
 refine aN (lN ag ae hn (i := Sm) (by omega)) (fun v28 V6 D28 => ?_)
 obtain ⟨rfl, N28, jG⟩ := D28
 replace ag := N28
 replace hF := ((((hF.go0 U9).go1 aY pX).go0 bK).go0 iW).go0 gm
 replace hF := hF.go jG (fun i _ h => h)
 exact ⟨_, rfl, _, rfl, hW.at (by omega), ag, hF⟩
theorem LZ {r c cur : Int} {A : Option Addr} {n cp bp B0 : Nat} {cs : List Gs.Cell} {w : World} (ag : Z.h w bp #[Z.i r, Z.i c, .slice A n cp, Z.i cur] 91) (ae : Own B0 w 37 5 (.slice A n cp) (rows Gs.cv cs)) (hW : Gs.Pw r c n cs cur)  :
    oX 86 #[Z.p bp] w fun e w' => ∃ v, e = .returned v ∧ ∃ cur, v = Z.i cur ∧ Gs.Pw r c n cs cur ∧ Z.h w' bp #[Z.i r, Z.i c, .slice A n cp, Z.i cur] 91 ∧ aA (· = bp) w w' := by
 refine F86.calls ?_
 unfold F86
 obtain ⟨hn, hcw, hcu, hp, hN, hb⟩ := id hW; have hrc := hW.rc
 have hF : aA (· = bp) w w := Fr.refl _ _ _
 refine aB (jS ag ae hn) (fun w1 U1 => ?_)
 replace ae := ae.ai U1
 replace ag := U1.af ag
 refine aB (eF ag ae hn) (fun w2 U2 => ?_)
 refine aB (Sj (r := r) (c := c) (i := cur) (by omega) (by omega) (by omega)) (fun w3 U3 => ?_)
 refine Z.e ?_
 refine Z.e ?_
 refine Z.e ?_
 have hdv : 0 ≤ cur / c ∧ cur / c ≤ 4096 := ⟨Int.ediv_nonneg hcu.1 (by omega), Int.le_trans (Int.ediv_le_self _ hcu.1) (by omega)⟩
 have hmu : 0 ≤ (cur / c + 1) * c ∧ (cur / c + 1) * c ≤ 4097 * 132 := ⟨Int.mul_nonneg (by omega) (by omega), Int.mul_le_mul (by omega) (by omega) (by omega) (by omega)⟩
 refine ak (dK _ (by omega)) ?_
 replace ae := (ae.ai U2).ai U3
 replace ag := U3.af (U2.af ag)
 refine aB (jS ag ae hn) (fun w4 U4 => ?_)
 refine ak (qX (off := 1) (by kernel_rfl) (by rfl)) ?_
 refine ak (Ez _ (by omega)) ?_
 replace ae := ae.ai U4
 replace ag := U4.af ag
 refine aB (kD ag ae hn hp hN hb) (fun w5 U5 => ?_)
 refine bM (fun g w' => (Z.h w' bp #[Z.i r, Z.i c, .slice A n cp, Z.i cur] 91) ∧ (Own B0 w' 37 5 (.slice A n cp) (rows Gs.cv cs)) ∧ (aA (· = bp) w w')) (fun J1 hJ1 => ?_) (fun gJ1 jT hI => ?_)
 replace ae := ae.ai U5
 replace ag := U5.af ag
 refine aB (fG ag ae hn) (fun w6 U6 => ?_)
 refine ed (fun g w' => ∃ (k : Nat), (g 28 = Z.i (k : Int)) ∧ (k ≤ n) ∧ (Z.h w' bp #[Z.i r, Z.i c, .slice A n cp, Z.i cur] 91) ∧ (Own B0 w' 37 5 (.slice A n cp) (rows Gs.cv cs)) ∧ (aA (· = bp) w w')) (fun g w' => n - (RowKit.intOf (g 28)).toNat) ?_ (fun g2 qK hI => ?_)
 replace hF := (((((hF.go0 U1).go0 U2).go0 U3).go0 U4).go0 U5).go0 U6
 replace ae := ae.ai U6
 replace ag := U6.af ag
 exact ⟨0, (by rfl), Nat.zero_le _, ag, ae, hF⟩
 replace hF := (((((hF.go0 U1).go0 U2).go0 U3).go0 U4).go0 U5).go0 U6
 replace ae := ae.ai U6
 replace ag := U6.af ag
 obtain ⟨k, g28, hk, ag, ae, hF⟩ := hI
 rw [g28]
 refine az (lss _ _ _ _) (fun h7 => ?_) (fun h7 => ?_)
 refine aJ ?_
 refine aB (kD ag ae hn hp hN hb) (fun w8 U8 => ?_)
 replace ae := ae.ai U8
 replace ag := U8.af ag
 refine dQ (nJ ag ae hn hN hb hcw) (fun w9 U9 h9 => ?_) (fun w9 U9 h9 => ?_)
 refine aJ ?_
 have hmo := Gs.jR ((0 + (cur / c + 1) * c) % (n : Int) + (k : Int)) (N := n) hp
 replace ae := ae.ai U9
 replace ag := U9.af ag
 refine aN (lN ag ae hn (i := ((0 + (cur / c + 1) * c) % (n : Int) + (k : Int)) % (n : Int)) (by omega)) (fun v10 w10 D10 => ?_)
 obtain ⟨rfl, N10, aY⟩ := D10
 replace ag := N10
 replace hF := (hF.go0 U8).go0 U9
 replace hF := hF.go aY (fun i _ h => h)
 exact ⟨_, rfl, _, rfl, hW.at (by omega), ag, hF⟩
 refine aC ?_
 refine ak (dK _ (by omega)) ?_
 replace hF := (hF.go0 U8).go0 U9
 replace ae := ae.ai U9
 replace ag := U9.af ag
 exact ⟨⟨k + 1, (by rfl), by omega, ag, ae, hF⟩, cnt_lt (by rfl) rfl (by omega)⟩
 refine aC ?_
 refine hJ1 _ _ ?_
 exact ⟨ag, ae, hF⟩
 replace hF := ((((hF.go0 U1).go0 U2).go0 U3).go0 U4).go0 U5
 replace ae := ae.ai U5
 replace ag := U5.af ag
 obtain ⟨ag, ae, hF⟩ := hI
 refine aN (lN ag ae hn (i := 0) (by omega)) (fun v12 w12 D12 => ?_)
 obtain ⟨rfl, N12, di⟩ := D12
 replace ag := N12
 replace hF := hF.go di (fun i _ h => h)
 exact ⟨_, rfl, _, rfl, hW.at (by omega), ag, hF⟩
theorem QC {r c cur : Int} {A : Option Addr} {n cp bp B0 : Nat} {cs : List Gs.Cell} {w : World} (ag : Z.h w bp #[Z.i r, Z.i c, .slice A n cp, Z.i cur] 91) (ae : Own B0 w 37 5 (.slice A n cp) (rows Gs.cv cs)) (hW : Gs.Pw r c n cs cur)  :
    oX 87 #[Z.p bp] w fun e w' => ∃ v, e = .returned v ∧ ∃ cur, v = Z.i cur ∧ Gs.Pw r c n cs cur ∧ Z.h w' bp #[Z.i r, Z.i c, .slice A n cp, Z.i cur] 91 ∧ aA (· = bp) w w' := by
 refine F87.calls ?_
 unfold F87
 obtain ⟨hn, hcw, hcu, hp, hN, hb⟩ := id hW; have hrc := hW.rc
 have hhb := Gs.Jk (cs := cs) (by omega)
 have hF : aA (· = bp) w w := Fr.refl _ _ _
 refine aB (BG ag ae hn hN hb hcw) (fun w1 U1 => ?_)
 replace ae := ae.ai U1
 replace ag := U1.af ag
 refine aN (lN ag ae hn (i := Gs.rZ cs) (by omega)) (fun v2 w2 D2 => ?_)
 obtain ⟨rfl, N2, U2⟩ := D2
 replace ag := N2
 replace hF := hF.go0 U1
 replace hF := hF.go U2 (fun i _ h => h)
 exact ⟨_, rfl, _, rfl, hW.at (by omega), ag, hF⟩
theorem xY {r c cur : Int} {A : Option Addr} {n cp bp B0 : Nat} {cs : List Gs.Cell} {w : World} (ag : Z.h w bp #[Z.i r, Z.i c, .slice A n cp, Z.i cur] 91) (ae : Own B0 w 37 5 (.slice A n cp) (rows Gs.cv cs)) (hW : Gs.Pw r c n cs cur) {i j : Int} (hi : -1 ≤ i ∧ i ≤ 1) (hj : -1 ≤ j ∧ j ≤ 1) :
    oX 88 #[Z.p bp, Z.i i, Z.i j] w fun e w' => ∃ v, e = .returned v ∧ ∃ cur, v = Z.i cur ∧ Gs.Pw r c n cs cur ∧ Z.h w' bp #[Z.i r, Z.i c, .slice A n cp, Z.i cur] 91 ∧ aA (· = bp) w w' := by
 refine F88.calls ?_
 unfold F88
 obtain ⟨hn, hcw, hcu, hp, hN, hb⟩ := id hW; have hrc := hW.rc
 have hF : aA (· = bp) w w := Fr.refl _ _ _
 refine aB (jS ag ae hn) (fun w1 U1 => ?_)
 refine Z.n (#[Z.i 0, Z.i 0]) (fun b2 w2 e2 ax _ U2 => ?_)
 replace ag := U1.af ag
 have eU : bp ≠ b2 := by have := au ag; omega
 replace ae := ae.ai U1
 have dF := ae.apart e2
 replace hF := hF.go0 U1
 have eQ : w.heap.size ≤ b2 := by have := hF.size; omega
 refine gK (n := 2) (by kernel_rfl) (by rfl) (by (simp [Value.cells, Value.oneCell', Gs.cv, Gs.fv, Gs.ie]; done)) ax (Nat.le_of_ble_eq_true rfl) (by (simp; rfl)) (fun w3 ax _ U3 => ?_)
 refine dS (S := no) (fun w4 U4 => ?_)
 replace ae := ((ae.ai U2).aF U3 dF).ai U4
 replace ag := U4.af (U3.aj (U2.af ag) eU)
 refine fO (fun w' hw' => by have ag := hw'.af ag; have ae := ae.ai hw'; exact eF ag ae hn) ?_
 refine Z.g 0 ?_
 replace ax := U4.af ax
 refine Z.m ax ?_
 refine bJ (fun w' hw' => (Sr _ (by omega) (by omega))) ?_
 refine Z.g 1 ?_
 refine Z.m ax ?_
 have hmr := Gs.agt i hrc.1 hi
 have hmc := Gs.ain hmr c
 refine bJ (fun w' hw' => (Ez _ (by omega))) ?_
 refine fO (fun w' hw' => by have ag := hw'.af ag; have ae := ae.ai hw'; exact kD ag ae hn hp hN hb) ?_
 refine fO (fun w' hw' => by have ag := hw'.af ag; have ae := ae.ai hw'; exact kD ag ae hn hp hN hb) ?_
 refine aI (fun w8 U8 => ?_)
 have := Gs.jR (((cur + i.tmod r * c) % (n : Int)) + j) (N := n) hp
 replace ae := ae.ai U8
 replace ag := U8.af ag
 refine aN (lN ag ae hn (by omega)) (fun v9 w9 D9 => ?_)
 obtain ⟨rfl, N9, U9⟩ := D9
 replace ag := N9
 replace hF := (((hF.go0 U2).go1 U3 eQ).go0 U4).go0 U8
 replace hF := hF.go U9 (fun i _ h => h)
 refine aI (fun w10 aY => ?_)
 replace ag := aY.af ag
 replace hF := hF.go0 aY
 exact ⟨_, rfl, _, rfl, hW.at (by omega), ag, hF⟩
theorem Ya {r c cur : Int} {A : Option Addr} {n cp bp B0 : Nat} {cs : List Gs.Cell} {w : World} (ag : Z.h w bp #[Z.i r, Z.i c, .slice A n cp, Z.i cur] 91) (ae : Own B0 w 37 5 (.slice A n cp) (rows Gs.cv cs)) (hW : Gs.Pw r c n cs cur)  :
    oX 74 #[Z.p bp] w fun e w' => ∃ v, e = .returned v ∧ ∃ cur, v = Z.i cur ∧ Gs.Pw r c n cs cur ∧ Z.h w' bp #[Z.i r, Z.i c, .slice A n cp, Z.i cur] 91 ∧ aA (· = bp) w w' := by
 refine V7.calls ?_
 unfold V7
 obtain ⟨hn, hcw, hcu, hp, hN, hb⟩ := id hW; have hrc := hW.rc
 have hnx := Gs.jR (cur + 1) (N := n) hp
 have hF : aA (· = bp) w w := Fr.refl _ _ _
 refine aB (eF ag ae hn) (fun w1 U1 => ?_)
 replace ae := ae.ai U1
 replace ag := U1.af ag
 refine aB (kD ag ae hn hp hN hb) (fun w2 U2 => ?_)
 replace ae := ae.ai U2
 replace ag := U2.af ag
 refine aN (lN ag ae hn (i := (cur + 1) % (n : Int)) (by omega)) (fun v3 w3 D3 => ?_)
 obtain ⟨rfl, N3, U3⟩ := D3
 replace ae := ae.aF U3 (Own.aS ae (by assumption) (by decide))
 replace ag := N3
 replace hF := (hF.go0 U1).go0 U2
 replace hF := hF.go U3 (fun i _ h => h)
 replace hW := hW.at hnx
 obtain ⟨xc, hxe⟩ : ∃ x, x = Gs.bV cs ((cur + 1) % (n : Int)) := ⟨_, rfl⟩
 have hxw := Gs.sG hcw ((cur + 1) % (n : Int))
 refine aB (iF ag ae hn) (fun w4 U4 => ?_)
 rw [← hxe]
 refine Z.n ((Gs.cv Gs.zc).toArray) (fun b5 w5 e5 bY _ U5 => ?_)
 replace ag := U4.af ag
 have jW : bp ≠ b5 := by have := au ag; omega
 replace ae := ae.ai U4
 have jr := ae.apart e5
 replace hF := hF.go0 U4
 have ik : w.heap.size ≤ b5 := by have := hF.size; omega
 refine Z.t 5 ((Gs.cv xc).toArray) (by (simp [Value.cells, Value.oneCell', Gs.cv, Gs.fv, Gs.ie]; done)) bY (fun w6 bY _ U6 => ?_)
 refine Z.f 2 ?_
 refine pK (kZ (by kernel_rfl) bY (by rfl)) (fun h7 => ?_) (fun h7 => ?_)
 refine aX ?_
 refine Z.f 0 ?_
 refine aX ?_
 refine Z.l bY ?_
 refine aX ?_
 refine dQ (Vm (by rw [hxe]; exact hxw)) (fun w8 U8 h8 => ?_) (fun w8 U8 h8 => ?_)
 simp only [Z.d, Z.c] at h8
 refine aT (aJ ?_)
 replace ae := ((ae.ai U5).aF U6 jr).ai U8
 replace ag := U8.af (U6.aj (U5.af ag) jW)
 refine aN (DW ag ae hW) (fun v9 w9 D9 => ?_)
 obtain ⟨cur, rfl, hW, N9, U9⟩ := D9
 obtain ⟨hn, hcw, hcu, hp, hN, hb⟩ := id hW
 replace ag := N9
 replace hF := ((hF.go0 U5).go1 U6 ik).go0 U8
 replace hF := hF.go U9 (fun i _ h => h)
 exact ⟨_, rfl, _, rfl, hW.at (by omega), ag, hF⟩
 simp only [Z.d, Z.c] at h8
 refine aT (aC ?_)
 refine Z.f 2 ?_
 replace bY := U8.af bY
 refine pK (kZ (by kernel_rfl) bY (by rfl)) (fun h11 => ?_) (fun h11 => ?_)
 refine aJ ?_
 replace ae := ((ae.ai U5).aF U6 jr).ai U8
 replace ag := U8.af (U6.aj (U5.af ag) jW)
 refine aB (kD ag ae hn hp hN hb) (fun w12 di => ?_)
 have := Gs.jR ((cur + 1) % (n : Int) + 1) (N := n) hp
 replace ae := ae.ai di
 replace ag := di.af ag
 refine aN (lN ag ae hn (by omega)) (fun v13 vY D13 => ?_)
 obtain ⟨rfl, N13, dI⟩ := D13
 replace ag := N13
 replace hF := (((hF.go0 U5).go1 U6 ik).go0 U8).go0 di
 replace hF := hF.go dI (fun i _ h => h)
 exact ⟨_, rfl, _, rfl, hW.at (by omega), ag, hF⟩
 refine aC ?_
 replace ag := U8.af (U6.aj (U5.af ag) jW)
 replace hF := ((hF.go0 U5).go1 U6 ik).go0 U8
 exact ⟨_, rfl, _, rfl, hW.at (by omega), ag, hF⟩
 refine aQ (aQ (aQ (aU (aC ?_))))
 refine Z.f 2 ?_
 refine pK (kZ (by kernel_rfl) bY (by rfl)) (fun h16 => ?_) (fun h16 => ?_)
 refine aJ ?_
 replace ae := (ae.ai U5).aF U6 jr
 replace ag := U6.aj (U5.af ag) jW
 refine aB (kD ag ae hn hp hN hb) (fun uS df => ?_)
 have := Gs.jR ((cur + 1) % (n : Int) + 1) (N := n) hp
 replace ae := ae.ai df
 replace ag := df.af ag
 refine aN (lN ag ae hn (by omega)) (fun v18 xx D18 => ?_)
 obtain ⟨rfl, N18, dM⟩ := D18
 replace ag := N18
 replace hF := ((hF.go0 U5).go1 U6 ik).go0 df
 replace hF := hF.go dM (fun i _ h => h)
 exact ⟨_, rfl, _, rfl, hW.at (by omega), ag, hF⟩
 refine aC ?_
 replace ag := U6.aj (U5.af ag) jW
 replace hF := (hF.go0 U5).go1 U6 ik
 exact ⟨_, rfl, _, rfl, hW.at (by omega), ag, hF⟩
theorem L6 {x : Int} {w : World} (hx : 0 ≤ x ∧ x ≤ 255) :
    oX 119 #[Z.u x] w fun e w' => e = .returned (.bool (decide ((240 ≤ x ∧ x ≤ 249) ∨ x = 75 ∨ x = 96 ∨ x = 28))) ∧ aA no w w' := by
 refine Yb.calls ?_
 unfold Yb
 have hF : aA no w w := Fr.refl _ _ _
 refine dQ (RX (b := x)) (fun w1 U1 h1 => ?_) (fun w1 U1 h1 => ?_)
 simp only [Z.d, Z.c] at h1
 refine bu (bu (aT (bu (bu (aT (bu (bu (aT ?_))))))))
 replace hF := hF.go0 U1
 exact ⟨Ku (by omega), hF⟩
 simp only [Z.d, Z.c] at h1
 refine bD (bD ?_)
 refine az (cZ _ _ _ _ _) (fun h3 => ?_) (fun h3 => ?_)
 refine aU (bu (bu (aT (bu (bu (aT ?_))))))
 replace hF := hF.go0 U1
 exact ⟨Ku (by omega), hF⟩
 refine aU (bD (bD ?_))
 refine az (cZ _ _ _ _ _) (fun h5 => ?_) (fun h5 => ?_)
 refine aU (bu (bu (aT ?_)))
 replace hF := hF.go0 U1
 exact ⟨Ku (by omega), hF⟩
 refine aU (bD (bD ?_))
 refine ak (cZ _ _ _ _ _) ?_
 refine aU ?_
 replace hF := hF.go0 U1
 exact ⟨yL (by omega), hF⟩
theorem Ip {r c cur : Int} {A : Option Addr} {n cp bp B0 : Nat} {cs : List Gs.Cell} {w : World} (ag : Z.h w bp #[Z.i r, Z.i c, .slice A n cp, Z.i cur] 91) (ae : Own B0 w 37 5 (.slice A n cp) (rows Gs.cv cs)) (hW : Gs.Pw r c n cs cur) {i : Int} (hi : 0 ≤ i ∧ i < n) :
    oX 120 #[Z.p bp, Z.i i] w fun e w' => ∃ v, e = .returned v ∧ ∃ (l : List Int) (A' : Option Addr) (c' : Nat), v = .slice A' l.length c' ∧ Rd w' A' (vals .i64 l) ∧ uQ A' (vals .i64 l) w.heap.size ∧ Gs.uJ cs l ∧ l.length ≤ n ∧ (Gs.jX cs i = true → l ≠ []) ∧ aA no w w' := by
 refine Yc.calls ?_
 unfold Yc
 obtain ⟨hn, hcw, hcu, hp, hN, hb⟩ := id hW; have hrc := hW.rc
 obtain ⟨i0, rfl⟩ := Int.eq_ofNat_of_zero_le hi.1
 have hiC : 0 ≤ (i0 : Int) ∧ (i0 : Int) < cs.length := by omega
 have xy := au ag
 have l9 := Own.lt ae
 have hF : aA no w w := Fr.refl _ _ _
 refine Z.x _ (fun b1 w1 e1 ah _ U1 => ?_)
 have kX : bp ≠ b1 := by have := au ag; omega
 have iq := ae.apart e1
 have bZ : w.heap.size ≤ b1 := by have := hF.size; omega
 refine Z.n (#[.slice none 0 0]) (fun b2 w2 e2 ax _ U2 => ?_)
 replace ag := U1.af ag
 have eU : bp ≠ b2 := by have := au ag; omega
 replace ae := ae.ai U1
 have dF := ae.apart e2
 have lI : b1 ≠ b2 := by have := au ah; omega
 replace hF := hF.go0 U1
 have eQ : w.heap.size ≤ b2 := by have := hF.size; omega
 replace ah := U2.af ah
 refine Z.l ah ?_
 replace ae := ae.ai U2
 replace ag := U2.af ag
 refine aB (tu ag ae hn hN hb hcw (i := (i0 : Int))) (fun w3 U3 => ?_)
 refine Z.e ?_
 refine Z.e ?_
 refine Z.n ((Gs.fv Gs.zf).toArray) (fun b4 w4 e4 eu _ U4 => ?_)
 replace ag := U3.af ag
 have tC : bp ≠ b4 := by have := au ag; omega
 replace ae := ae.ai U3
 have oW := ae.apart e4
 replace ah := U3.af ah
 have oO : b1 ≠ b4 := by have := au ah; omega
 replace ax := U3.af ax
 have FC : b2 ≠ b4 := by have := au ax; omega
 replace hF := (hF.go0 U2).go0 U3
 have nZ : w.heap.size ≤ b4 := by have := hF.size; omega
 refine Z.t 3 ((Gs.fv (Gs.l7 cs (i0 : Int))).toArray) (by (simp [Value.cells, Value.oneCell', Gs.cv, Gs.fv, Gs.ie]; done)) eu (fun w5 eu _ U5 => ?_)
 refine bM (fun g w' => (Gs.lZ cs (i0 : Int) = true) ∧ (Z.h w' b1 #[Z.i (i0 : Int)] 3) ∧ (Z.h w' b2 #[.slice none 0 0] 176) ∧ (Z.h w' b4 ((Gs.fv (Gs.l7 cs (i0 : Int))).toArray) 173) ∧ (Z.h w' bp #[Z.i r, Z.i c, .slice A n cp, Z.i cur] 91) ∧ (Own B0 w' 37 5 (.slice A n cp) (rows Gs.cv cs)) ∧ (aA no w w')) (fun J1 hJ1 => ?_) (fun gJ1 jT hI => ?_)
 refine ak (Ac _) ?_
 refine jQ (fun h6 => ?_) (fun h6 => ?_)
 refine bM (fun g w' => ∃ (v5 : Value) (l : List Int), (Z.h w' b2 #[v5] 176) ∧ (Own w.heap.size w' 3 1 v5 (vals .i64 l)) ∧ (Gs.uJ cs l) ∧ (l.length + i0 = n) ∧ (aA no w w')) (fun J2 hJ2 => ?_) (fun gJ2 RF hI => ?_)
 replace ae := (ae.ai U4).aF U5 oW
 replace ag := U5.aj (U4.af ag) tC
 replace ah := U5.aj (U4.af ah) oO
 replace ax := U5.aj (U4.af ax) FC
 replace hF := (hF.go0 U4).go1 U5 nZ
 have hob : Gs.lZ cs (i0 : Int) = false := by cases hq : Gs.lZ cs (i0 : Int) <;> simp_all
 refine Z.l ah ?_
 refine ed (fun g w' => ∃ (k : Nat) (v5 : Value) (l : List Int), (g 8 = Z.i (k : Int)) ∧ (i0 ≤ k ∧ k ≤ n) ∧ (Z.h w' b2 #[v5] 176) ∧ (Own w.heap.size w' 3 1 v5 (vals .i64 l)) ∧ (Gs.uJ cs l) ∧ (l.length + i0 = k) ∧ (Z.h w' bp #[Z.i r, Z.i c, .slice A n cp, Z.i cur] 91) ∧ (Own B0 w' 37 5 (.slice A n cp) (rows Gs.cv cs)) ∧ (aA no w w')) (fun g w' => n - (RowKit.intOf (g 8)).toNat) ?_ (fun g3 wl3 hI => ?_)
 exact ⟨i0, _, [], (by rfl), (by omega), ax, (Own.nil _ _ _ _), (Gs.uJ.nil _), (by simp), ag, ae, hF⟩
 obtain ⟨k, v5, l, g8, hk, ax, fH, hrk, hll, ag, ae, hF⟩ := hI
 rw [g8]
 refine aB (fG ag ae hn) (fun w7 U7 => ?_)
 refine az (lss _ _ _ _) (fun h8 => ?_) (fun h8 => ?_)
 refine aJ ?_
 replace ax := U7.af ax
 refine Z.l ax ?_
 refine dN (e := 3) (m := 1) (z := #[Z.i 0]) (by kernel_rfl) (by kernel_rfl) (by rfl) (by decide) (by (simp [eP, splice, gu, Value.cells, Gs.cv, Gs.fv, Gs.ie]; rfl)) (fun b9 w9 e9 je _ U9 => ?_)
 have BH : b2 ≠ b9 := by have := au ax; omega
 replace fH := fH.ai U7
 have Yd := fH.apart e9
 replace ag := U7.af ag
 have FB : bp ≠ b9 := by have := au ag; omega
 replace ae := ae.ai U7
 have zo := ae.apart e9
 replace hF := hF.go0 U7
 have pX : w.heap.size ≤ b9 := by have := hF.size; omega
 replace fH := fH.ai U9
 replace hF := hF.go0 U9
 refine kV (e := 3) (size := 1) (bytes := 8) (by kernel_rfl) fH (Rd.nS je) rfl (by (simp [Value.oneCell']; done)) (by simp only [vals_length, List.length_take, List.length_cons, List.length_nil, List.length_append, List.length_map, List.length_range]; omega) (by have := hF.size; omega) (fun v10 w10 N10 hA10 aY => ?_)
 have lh := fH
 have nc10_b9 : ∀ k, aH v10 k → k ≠ b9 := fun k hk e => Or.elim (hA10 k hk) (fun h => Yd k h e) (fun h => by have := au je; omega)
 replace ax := U9.af ax
 replace ax := aY.get ax (fun h => Own.aS lh ax (by decide) _ h rfl)
 replace fH := N10
 replace ag := U9.af ag
 replace ag := aY.get ag (fun h => by (have := Own.ge lh h; omega))
 replace ae := ae.ai U9
 replace ae := ae.dX aY (fun k hk hs => by have := l9 k hk; have := (Own.ge lh hs).1; omega)
 replace hF := hF.go aY (fun i h hs => by (have := (Own.ge lh hs).1; omega))
 clear lh
 refine mG (by kernel_rfl) (Own.DR fH).1 (Own.DR fH).2 ax (Nat.le_of_ble_eq_true rfl) (by (simp [tH]; rfl)) (fun nR ax _ bK => ?_)
 replace fH := fH.aF bK (Own.aS fH (by assumption) (by decide))
 refine ak (dK _ (by omega)) ?_
 replace ae := ae.aF bK dF
 replace ag := bK.aj ag eU
 replace hF := hF.go1 bK eQ
 exact ⟨⟨k + 1, _, _, (by rfl), (by omega), ax, (KE fH), (hrk.snoc (Gs.Su hiC hob (by omega))), (by simp only [List.length_append, List.length_cons, List.length_nil]; omega), ag, ae, hF⟩, cnt_lt (by rfl) rfl (by omega)⟩
 refine aC ?_
 refine hJ2 _ _ ?_
 replace fH := fH.ai U7
 replace ax := U7.af ax
 replace hF := hF.go0 U7
 exact ⟨_, _, ax, fH, hrk, (by omega), hF⟩
 replace ax := U5.aj (U4.af ax) FC
 replace hF := (hF.go0 U4).go1 U5 nZ
 obtain ⟨v5, l, ax, fH, hrk, hll, hF⟩ := hI
 refine Z.l ax ?_
 show lQ [] _ _
 obtain ⟨A5, c5, rfl, Sv⟩ := fH.bH
 exact ⟨_, rfl, l, _, _, rfl, Sv, .inr fun k hk => (fH.JH k hk).1, hrk, by omega, by (intro _ h; rw [h] at hll; simp only [List.length_nil] at hll; omega), hF⟩
 refine hJ1 _ _ ?_
 replace ae := (ae.ai U4).aF U5 oW
 replace ag := U5.aj (U4.af ag) tC
 replace ah := U5.aj (U4.af ah) oO
 replace ax := U5.aj (U4.af ax) FC
 replace hF := (hF.go0 U4).go1 U5 nZ
 exact ⟨(by cases hq : Gs.lZ cs (i0 : Int) <;> simp_all), ah, ax, eu, ag, ae, hF⟩
 replace ae := (ae.ai U4).aF U5 oW
 replace ag := U5.aj (U4.af ag) tC
 replace ah := U5.aj (U4.af ah) oO
 replace ax := U5.aj (U4.af ax) FC
 replace hF := (hF.go0 U4).go1 U5 nZ
 obtain ⟨hob, ah, ax, eu, ag, ae, hF⟩ := hI
 refine bM (fun g w' => ∃ (D5 : Nat) (v5 : Value) (l : List Int), (g 1000000 = mkV D5 undef) ∧ (w.heap.size ≤ D5) ∧ (w'.heap[D5]? = some (.deferred (some []))) ∧ (Z.h w' b2 #[v5] 176) ∧ (Own w.heap.size w' 3 1 v5 (vals .i64 l)) ∧ (Gs.uJ cs l) ∧ (l.length ≤ n) ∧ (Gs.jX cs (i0 : Int) = true → l ≠ []) ∧ (aA no w w')) (fun J4 hJ4 => ?_) (fun gJ4 wJ4 hI => ?_)
 refine Z.b 3 ((Gs.fv (Gs.l7 cs (i0 : Int))).toArray) eu ?_
 refine aN (yS ag ae hn (f := Gs.l7 cs (i0 : Int))) (fun v14 sO D14 => ?_)
 obtain ⟨b1_32, b2_32, rfl, g1_32, g2_32, fD, fE, dC⟩ := D14
 have ake : b1 ≠ b1_32 := by have := au ah; omega
 have JL : b2 ≠ b1_32 := by have := au ax; omega
 have akf : b4 ≠ b1_32 := by have := au eu; omega
 have akg : bp ≠ b1_32 := by have := au ag; omega
 have agu : ∀ k, aH _ k → k ≠ b1_32 := fun k hk => by have := (Own.ge ae hk).2; omega
 have am6 : w.heap.size ≤ b1_32 := by have := hF.size; omega
 have akh : b1 ≠ b2_32 := by have := au ah; omega
 have JM : b2 ≠ b2_32 := by have := au ax; omega
 have aki : b4 ≠ b2_32 := by have := au eu; omega
 have akj : bp ≠ b2_32 := by have := au ag; omega
 have agv : ∀ k, aH _ k → k ≠ b2_32 := fun k hk => by have := (Own.ge ae hk).2; omega
 have am7 : w.heap.size ≤ b2_32 := by have := hF.size; omega
 refine tJ (by kernel_rfl) (fun uG l5 D5 Rdy5 Bsy5 Dn5 y5 eD el dG dU lp1 lp2 lp3 sz15 bW hY => ?_)
 have lp2_5 := lp2
 replace ah := dC.af ah
 have Sz : b1 ≠ D5 := by have := au ah; omega
 have mf : b1 ≠ l5 := by have := au ah; omega
 replace ax := dC.af ax
 have SA : b2 ≠ D5 := by have := au ax; omega
 have vg : b2 ≠ l5 := by have := au ax; omega
 replace eu := dC.af eu
 have am8 : b4 ≠ D5 := by have := au eu; omega
 have am9 : b4 ≠ l5 := by have := au eu; omega
 replace ag := dC.af ag
 have SB : bp ≠ D5 := by have := au ag; omega
 have lJ : bp ≠ l5 := by have := au ag; omega
 replace ae := ae.ai dC
 have zq : ∀ k, aH _ k → k ≠ D5 := fun k hk => by have := (Own.ge ae hk).2; omega
 have iR : ∀ k, aH _ k → k ≠ l5 := fun k hk => by have := (Own.ge ae hk).2; omega
 have akk : b1_32 ≠ D5 := by have := au fD; omega
 have uw : b1_32 ≠ l5 := by have := au fD; omega
 have akl : b2_32 ≠ D5 := by have := au fE; omega
 have uy : b2_32 ≠ l5 := by have := au fE; omega
 replace hF := hF.go0 dC
 have xZ : w.heap.size ≤ D5 := by have := hF.size; omega
 have pY : w.heap.size ≤ l5 := by have := hF.size; omega
 have kY : D5 ≠ l5 := by omega
 replace ae := ae.ai bW
 replace ah := bW.af ah
 replace ax := bW.af ax
 replace ag := bW.af ag
 replace fD := bW.af fD
 replace fE := bW.af fE
 replace hF := hF.go0 bW
 refine Calls.mono (BI (b1 := b1_32) (b2 := b2_32) (J := (fun (k : Nat) (w' : World) => ∃ (v5 : Value) (l : List Int), (Z.h w' b2 #[v5] 176) ∧ (Own w.heap.size w' 3 1 v5 (vals .i64 l)) ∧ (Gs.uJ cs l) ∧ (l.length ≤ k) ∧ (∀ j, j < k → (Gs.iy n (Gs.l7 cs (i0 : Int)))[j]? = some (i0 : Int) → l ≠ []) ∧ (¬ aH v5 b1) ∧ (Z.h w' b1 #[Z.i (i0 : Int)] 3) ∧ (Z.h w' bp #[Z.i r, Z.i c, .slice A n cp, Z.i cur] 91) ∧ (Own B0 w' 37 5 (.slice A n cp) (rows Gs.cv cs)) ∧ (Z.h w' b1_32 #[Z.p bp] 33) ∧ (Z.h w' b2_32 ((Gs.fv (Gs.l7 cs (i0 : Int))).toArray) 173) ∧ (w'.heap[D5]? = some (.deferred (some []))) ∧ (w'.heap[l5]? = some Rdy5) ∧ (aA no w w'))) (X := (fun _ => False)) (fun _ w' hJ => by obtain ⟨v5, l, ax, fH, hrk, hll, hnz, hs3, ah, ag, ae, fD, fE, dG, dU, hF⟩ := hJ; exact ⟨fD, fE, ag, ae⟩) (fun _ w' w'' hJ U' => by obtain ⟨v5, l, ax, fH, hrk, hll, hnz, hs3, ah, ag, ae, fD, fE, dG, dU, hF⟩ := hJ; exact ⟨v5, l, U'.af ax, fH.ai U', hrk, hll, hnz, hs3, U'.af ah, U'.af ag, ae.ai U', U'.af fD, U'.af fE, U'.af dG, U'.af dU, hF.go0 U'⟩) (fun _ _ h _ => h.elim) (fun _ h => h.elim) hn hN hb ?_ ?_) ?_
 intro k wl5 xk hx hI
 obtain ⟨v5, l, ax, fH, hrk, hll, hnz, hs3, ah, ag, ae, fD, fE, dG, dU, hF⟩ := hI
 obtain ⟨A5, c5, rfl, _⟩ := fH.bH
 have hk := (List.getElem?_eq_some_iff.1 hx).1
 have hxb := Gs.FD hx
 have hple := Gs.Dj n (Gs.l7 cs (i0 : Int))
 refine hY [Z.i xk] _ _ rfl dU ?_
 simp only [List.getD_cons_zero, List.getD_cons_succ]
 refine wE dU (fun w16 dU _ bQ => ?_)
 replace fH := fH.aF bQ (Own.iP fH (by assumption) (by assumption))
 replace ah := bQ.aj ah mf
 refine Z.l ah ?_
 refine az (cZ _ _ _ _ _) (fun h17 => ?_) (fun h17 => ?_)
 refine bu (bu (bu (aT (aJ ?_))))
 replace ax := bQ.aj ax vg
 refine Z.l ax ?_
 refine dN (e := 3) (m := 1) (z := #[Z.i 0]) (by kernel_rfl) (by kernel_rfl) (by rfl) (by decide) (by (simp [eP, splice, gu, Value.cells, Gs.cv, Gs.fv, Gs.ie]; rfl)) (fun b18 xx e18 Ye _ dM => ?_)
 have al4 : b2 ≠ b18 := by have := au ax; omega
 have Vo := fH.apart e18
 have aaW : b1 ≠ b18 := by have := au ah; omega
 replace ag := bQ.aj ag lJ
 have al5 : bp ≠ b18 := by have := au ag; omega
 replace ae := ae.aF bQ iR
 have aio := ae.apart e18
 replace fD := bQ.aj fD uw
 have aip : b1_32 ≠ b18 := by have := au fD; omega
 replace fE := bQ.aj fE uy
 have aiq : b2_32 ≠ b18 := by have := au fE; omega
 replace dG := bQ.aj dG kY
 have al6 : D5 ≠ b18 := by have := au dG; omega
 have al7 : l5 ≠ b18 := by have := au dU; omega
 replace hF := hF.go1 bQ pY
 have air : w.heap.size ≤ b18 := by have := hF.size; omega
 replace fH := fH.ai dM
 replace hF := hF.go0 dM
 refine kV (e := 3) (size := 1) (bytes := 8) (by kernel_rfl) fH (Rd.nS Ye) rfl (by (simp [Value.oneCell']; done)) (by simp only [vals_length, List.length_take, List.length_cons, List.length_nil, List.length_append, List.length_map, List.length_range]; omega) (by have := hF.size; omega) (fun v19 Ar N19 hA19 fC => ?_)
 have lh := fH
 replace ah := dM.af ah
 have al8 := aaX (S' := xx) hs3 ah hA19
 have ana : ∀ k, aH v19 k → k ≠ b18 := fun k hk e => Or.elim (hA19 k hk) (fun h => Vo k h e) (fun h => by have := au Ye; omega)
 replace ax := dM.af ax
 replace ax := fC.get ax (fun h => Own.aS lh ax (by decide) _ h rfl)
 replace fH := N19
 replace ah := fC.get ah hs3
 replace ag := dM.af ag
 replace ag := fC.get ag (fun h => by (have := Own.ge lh h; omega))
 replace ae := ae.ai dM
 replace ae := ae.dX fC (fun k hk hs => by have := l9 k hk; have := (Own.ge lh hs).1; omega)
 replace fD := dM.af fD
 replace fD := fC.get fD (fun h => Own.aS lh fD (by decide) _ h rfl)
 replace fE := dM.af fE
 replace fE := fC.get fE (fun h => Own.aS lh fE (by decide) _ h rfl)
 replace dG := dM.af dG
 replace dG := fC.get dG (fun h => Own.kT lh dG _ h rfl)
 replace dU := dM.af dU
 replace dU := fC.get dU (fun h => Own.iP lh dU (by assumption) _ h rfl)
 replace hF := hF.go fC (fun i h hs => by (have := (Own.ge lh hs).1; omega))
 clear lh
 refine mG (by kernel_rfl) (Own.DR fH).1 (Own.DR fH).2 ax (Nat.le_of_ble_eq_true rfl) (by (simp [tH]; rfl)) (fun xu ax _ dR => ?_)
 replace fH := fH.aF dR (Own.aS fH (by assumption) (by decide))
 replace dU := dR.aj dU (Ne.symm vg)
 refine rM dU (fun Dc dU _ dV => ?_)
 replace ae := ae.aF dR dF
 replace ah := dR.aj ah lI
 replace ag := dR.aj ag eU
 replace fD := dR.aj fD (Ne.symm JL)
 replace fE := dR.aj fE (Ne.symm JM)
 replace dG := dR.aj dG (Ne.symm SA)
 replace hF := hF.go1 dR eQ
 replace fH := fH.aF dV (Own.iP fH (by assumption) (by assumption))
 replace ae := ae.aF dV iR
 replace ax := dV.aj ax vg
 replace ah := dV.aj ah mf
 replace ag := dV.aj ag lJ
 replace fD := dV.aj fD uw
 replace fE := dV.aj fE uy
 replace dG := dV.aj dG kY
 replace hF := hF.go1 dV pY
 exact ⟨_, _, ax, (by exact KE fH), (by exact hrk.snoc (Gs.row_in hiC hob (by rw [← hn]; exact hx))), (by (try simp only [List.length_append, List.length_cons, List.length_nil]); omega), (by intro j hj hji; (simp; done)), (by assumption), ah, ag, ae, fD, fE, dG, dU, hF⟩
 refine bD ?_
 replace ax := bQ.aj ax vg
 refine Z.l ax ?_
 refine bD ?_
 refine ak (gZ (by kernel_rfl) _ _ _) ?_
 refine bD ?_
 refine az (gtr _ _ _ _) (fun h22 => ?_) (fun h22 => ?_)
 refine aU (aJ ?_)
 refine Z.l ax ?_
 refine dN (e := 3) (m := 1) (z := #[Z.i 0]) (by kernel_rfl) (by kernel_rfl) (by rfl) (by decide) (by (simp [eP, splice, gu, Value.cells, Gs.cv, Gs.fv, Gs.ie]; rfl)) (fun b23 Eu e23 aeU _ iZ => ?_)
 have al9 : b2 ≠ b23 := by have := au ax; omega
 have Vp := fH.apart e23
 have ama : b1 ≠ b23 := by have := au ah; omega
 replace ag := bQ.aj ag lJ
 have amb : bp ≠ b23 := by have := au ag; omega
 replace ae := ae.aF bQ iR
 have ais := ae.apart e23
 replace fD := bQ.aj fD uw
 have ait : b1_32 ≠ b23 := by have := au fD; omega
 replace fE := bQ.aj fE uy
 have aiu : b2_32 ≠ b23 := by have := au fE; omega
 replace dG := bQ.aj dG kY
 have amc : D5 ≠ b23 := by have := au dG; omega
 have amd : l5 ≠ b23 := by have := au dU; omega
 replace hF := hF.go1 bQ pY
 have ge_b23 : w.heap.size ≤ b23 := by have := hF.size; omega
 replace fH := fH.ai iZ
 replace hF := hF.go0 iZ
 refine kV (e := 3) (size := 1) (bytes := 8) (by kernel_rfl) fH (Rd.nS aeU) rfl (by (simp [Value.oneCell']; done)) (by simp only [vals_length, List.length_take, List.length_cons, List.length_nil, List.length_append, List.length_map, List.length_range]; omega) (by have := hF.size; omega) (fun v24 Pm N24 hA24 jA => ?_)
 have lh := fH
 replace ah := iZ.af ah
 have ame := aaX (S' := Eu) hs3 ah hA24
 have anb : ∀ k, aH v24 k → k ≠ b23 := fun k hk e => Or.elim (hA24 k hk) (fun h => Vp k h e) (fun h => by have := au aeU; omega)
 replace ax := iZ.af ax
 replace ax := jA.get ax (fun h => Own.aS lh ax (by decide) _ h rfl)
 replace fH := N24
 replace ah := jA.get ah hs3
 replace ag := iZ.af ag
 replace ag := jA.get ag (fun h => by (have := Own.ge lh h; omega))
 replace ae := ae.ai iZ
 replace ae := ae.dX jA (fun k hk hs => by have := l9 k hk; have := (Own.ge lh hs).1; omega)
 replace fD := iZ.af fD
 replace fD := jA.get fD (fun h => Own.aS lh fD (by decide) _ h rfl)
 replace fE := iZ.af fE
 replace fE := jA.get fE (fun h => Own.aS lh fE (by decide) _ h rfl)
 replace dG := iZ.af dG
 replace dG := jA.get dG (fun h => Own.kT lh dG _ h rfl)
 replace dU := iZ.af dU
 replace dU := jA.get dU (fun h => Own.iP lh dU (by assumption) _ h rfl)
 replace hF := hF.go jA (fun i h hs => by (have := (Own.ge lh hs).1; omega))
 clear lh
 refine mG (by kernel_rfl) (Own.DR fH).1 (Own.DR fH).2 ax (Nat.le_of_ble_eq_true rfl) (by (simp [tH]; rfl)) (fun GV ax _ fZ => ?_)
 replace fH := fH.aF fZ (Own.aS fH (by assumption) (by decide))
 replace dU := fZ.aj dU (Ne.symm vg)
 refine rM dU (fun LH dU _ iW => ?_)
 replace ae := ae.aF fZ dF
 replace ah := fZ.aj ah lI
 replace ag := fZ.aj ag eU
 replace fD := fZ.aj fD (Ne.symm JL)
 replace fE := fZ.aj fE (Ne.symm JM)
 replace dG := fZ.aj dG (Ne.symm SA)
 replace hF := hF.go1 fZ eQ
 replace fH := fH.aF iW (Own.iP fH (by assumption) (by assumption))
 replace ae := ae.aF iW iR
 replace ax := iW.aj ax vg
 replace ah := iW.aj ah mf
 replace ag := iW.aj ag lJ
 replace fD := iW.aj fD uw
 replace fE := iW.aj fE uy
 replace dG := iW.aj dG kY
 replace hF := hF.go1 iW pY
 exact ⟨_, _, ax, (by exact KE fH), (by exact hrk.snoc (Gs.row_in hiC hob (by rw [← hn]; exact hx))), (by (try simp only [List.length_append, List.length_cons, List.length_nil]); omega), (by intro j hj hji; (simp; done)), (by assumption), ah, ag, ae, fD, fE, dG, dU, hF⟩
 refine aU (aC ?_)
 refine rM dU (fun Ij dU _ gm => ?_)
 replace ae := ae.aF bQ iR
 replace ag := bQ.aj ag lJ
 replace fD := bQ.aj fD uw
 replace fE := bQ.aj fE uy
 replace dG := bQ.aj dG kY
 replace hF := hF.go1 bQ pY
 replace fH := fH.aF gm (Own.iP fH (by assumption) (by assumption))
 replace ae := ae.aF gm iR
 replace ax := gm.aj ax vg
 replace ah := gm.aj ah mf
 replace ag := gm.aj ag lJ
 replace fD := gm.aj fD uw
 replace fE := gm.aj fE uy
 replace dG := gm.aj dG kY
 replace hF := hF.go1 gm pY
 exact ⟨_, _, ax, (by exact fH), (by exact hrk), (by (try simp only [List.length_append, List.length_cons, List.length_nil]); omega), (by intro j hj hji; (rcases Nat.lt_succ_iff_lt_or_eq.1 hj with h | rfl; exact hnz j h hji; rw [hx] at hji; cases hji; contradiction)), (by assumption), ah, ag, ae, fD, fE, dG, dU, hF⟩
 exact ⟨_, [], ax, (Own.nil _ _ _ _), (Gs.uJ.nil _), (Nat.le_refl _), (fun _ h => absurd h (Nat.not_lt_zero _)), Yf, ah, ag, ae, fD, fE, dG, dU, hF⟩
 rintro e wE5 ⟨hv, hI | hI⟩
 obtain ⟨v5, l, ax, fH, hrk, hll, hnz, hs3, ah, ag, ae, fD, fE, dG, dU, hF⟩ := hI
 refine ⟨hv, .inl ⟨dU, fun V6 _ jG => ?_⟩⟩
 replace fH := fH.aF jG (Own.iP fH (by assumption) (by assumption))
 refine hJ4 _ _ ?_
 replace ax := jG.aj ax vg
 replace dG := jG.aj dG kY
 replace hF := hF.go1 jG pY
 exact ⟨_, _, _, (by rfl), xZ, dG, ax, fH, hrk, (by have := Gs.Dj n (Gs.l7 cs (i0 : Int)); omega), (fun ho => by obtain ⟨j, hj⟩ := Gs.aiv ho hob; rw [← hn] at hj; exact hnz j (List.getElem?_eq_some_iff.1 hj).1 hj), hF⟩
 exact hI.elim
 obtain ⟨D5, v5, l, g1000000, xZ, dG, ax, fH, hrk, hll, hnz, hF⟩ := hI
 rw [g1000000]
 refine Z.l ax ?_
 refine leave1 dG (fun w30 _ rV => ?_)
 replace fH := fH.aF rV (Own.kT fH (by assumption))
 obtain ⟨A5, c5, rfl, Sv⟩ := fH.bH
 replace hF := hF.go1 rV xZ
 exact ⟨_, rfl, l, _, _, rfl, Sv, .inr fun k hk => (fH.JH k hk).1, hrk, by omega, by exact hnz, hF⟩
theorem KF {r c cur : Int} {A : Option Addr} {n cp bp B0 b1 : Nat} {cs : List Gs.Cell} {w : World} (ag : Z.h w bp #[Z.i r, Z.i c, .slice A n cp, Z.i cur] 91) (ae : Own B0 w 37 5 (.slice A n cp) (rows Gs.cv cs)) (hW : Gs.Pw r c n cs cur) (ah : Z.h w b1 #[Z.p bp] 33) {i : Int} :
    oX 122 #[Z.i i, Z.p b1] w fun e w' => ∃ v, e = .returned v ∧ ∃ q : Bool, v = .bool q ∧ aA no w w' := by
 refine Yg.calls ?_
 unfold Yg
 obtain ⟨hn, hcw, hcu, hp, hN, hb⟩ := id hW; have hrc := hW.rc
 have hF : aA no w w := Fr.refl _ _ _
 refine Z.l ah ?_
 refine aB (iF ag ae hn (i := i)) (fun w1 U1 => ?_)
 refine ak (qX (off := 0) (by kernel_rfl) (by rfl)) ?_
 refine az (cZ _ _ _ _ _) (fun h2 => ?_) (fun h2 => ?_)
 refine aX ?_
 replace ah := U1.af ah
 refine Z.l ah ?_
 refine aX (aX ?_)
 replace ae := ae.ai U1
 replace ag := U1.af ag
 refine aB (iF ag ae hn (i := i)) (fun w3 U3 => ?_)
 refine aX ?_
 refine ak (qX (off := 1) (by kernel_rfl) (by rfl)) ?_
 refine aX ?_
 refine ak (Ac _) ?_
 refine aT ?_
 replace hF := (hF.go0 U1).go0 U3
 exact ⟨_, rfl, _, rfl, hF⟩
 refine aQ (aQ (aQ (aQ (aQ (aU ?_)))))
 replace hF := hF.go0 U1
 exact ⟨_, rfl, _, rfl, hF⟩
theorem Vq {r c cur : Int} {A : Option Addr} {n cp bp B0 b1 : Nat} {cs : List Gs.Cell} {w : World} (ag : Z.h w bp #[Z.i r, Z.i c, .slice A n cp, Z.i cur] 91) (ae : Own B0 w 37 5 (.slice A n cp) (rows Gs.cv cs)) (hW : Gs.Pw r c n cs cur) (ah : Z.h w b1 #[Z.p bp] 33) {l : List Int} {A1 : Option Addr} {n1 c1 : Nat} (bH : Rd w A1 (vals .i64 l)) (hl1 : n1 = l.length) (hlb : n1 ≤ 4096) :
    oX 121 #[.slice A1 n1 c1, .func (.func 122) #[] #[Z.p b1]] w fun e w' => ∃ v, e = .returned v ∧ ∃ q : Int, v = Z.i q ∧ (-1 ≤ q ∧ q < n1) ∧ aA no w w' := by
 refine Yh.calls ?_
 unfold Yh
 obtain ⟨hn, hcw, hcu, hp, hN, hb⟩ := id hW; have hrc := hW.rc
 have hF : aA no w w := Fr.refl _ _ _
 refine bM (fun g w' => (aA no w w')) (fun J1 hJ1 => ?_) (fun gJ1 jT hI => ?_)
 refine ak (gZ (by kernel_rfl) _ _ _) ?_
 refine ed (fun g w' => ∃ (k : Nat), (g 8 = Z.i (k : Int)) ∧ (k ≤ n1) ∧ (Z.h w' bp #[Z.i r, Z.i c, .slice A n cp, Z.i cur] 91) ∧ (Own B0 w' 37 5 (.slice A n cp) (rows Gs.cv cs)) ∧ (Z.h w' b1 #[Z.p bp] 33) ∧ (Rd w' A1 (vals .i64 l)) ∧ (aA no w w')) (fun g w' => n1 - (RowKit.intOf (g 8)).toNat) ?_ (fun g2 qK hI => ?_)
 exact ⟨0, (by rfl), Nat.zero_le _, ag, ae, ah, bH, hF⟩
 obtain ⟨k, g8, hk, ag, ae, ah, bH, hF⟩ := hI
 rw [g8]
 refine az (lss _ _ _ _) (fun h1 => ?_) (fun h1 => ?_)
 refine aJ ?_
 refine mF (by kernel_rfl) (by kernel_rfl) bH (by assumption) (by omega) (by omega) (fun x2 hx2 => ?_)
 simp only [Int.toNat_natCast] at hx2
 refine Py (by kernel_rfl) (by rfl) (aN (KF ag ae hW ah) (fun v3 w3 D3 => ?_))
 obtain ⟨q16, rfl, U3⟩ := D3
 refine jQ (fun h4 => ?_) (fun h4 => ?_)
 replace hF := hF.go0 U3
 exact ⟨_, rfl, _, rfl, by omega, hF⟩
 refine ak (dK _ (by omega)) ?_
 replace ae := ae.ai U3
 replace bH := bH.ai U3
 replace ag := U3.af ag
 replace ah := U3.af ah
 replace hF := hF.go0 U3
 exact ⟨⟨k + 1, (by rfl), by omega, ag, ae, ah, bH, hF⟩, cnt_lt (by rfl) rfl (by omega)⟩
 refine aC ?_
 refine hJ1 _ _ ?_
 exact hF
 have hF := hI
 exact ⟨_, rfl, _, rfl, by omega, hF⟩
theorem Oj {r c cur : Int} {A : Option Addr} {n cp bp B0 : Nat} {cs : List Gs.Cell} {w : World} (ag : Z.h w bp #[Z.i r, Z.i c, .slice A n cp, Z.i cur] 91) (ae : Own B0 w 37 5 (.slice A n cp) (rows Gs.cv cs)) (hW : Gs.Pw r c n cs cur)  :
    oX 72 #[Z.p bp] w fun e w' => ∃ v, e = .returned v ∧ ∃ (q : Int) (c1 : List Gs.Cell), v = Z.i q ∧ Gs.Pw r c n c1 cur ∧ Gs.Kp cs c1 ∧ (q ≠ 0 → c1 = cs) ∧ Own B0 w' 37 5 (.slice A n cp) (rows Gs.cv c1) ∧ aA (aH (.slice A n cp)) w w' := by
 refine F72.calls ?_
 unfold F72
 obtain ⟨hn, hcw, hcu, hp, hN, hb⟩ := id hW; have hrc := hW.rc
 have hk0 := Gs.Kp.refl cs
 have hF : aA (aH (.slice A n cp)) w w := Fr.refl _ _ _
 refine Z.x _ (fun b1 w1 e1 ah _ U1 => ?_)
 have iq := ae.apart e1
 refine dS (S := no) (fun w2 U2 => ?_)
 replace ah := U2.af ah
 refine Z.m ah ?_
 refine Z.m ah ?_
 replace ae := (ae.ai U1).ai U2
 replace ag := U2.af (U1.af ag)
 refine fO (fun w' hw' => by have ag := hw'.af ag; have ae := ae.ai hw'; exact eF ag ae hn) ?_
 refine aI (fun w4 U4 => ?_)
 replace ae := ae.ai U4
 replace ag := U4.af ag
 refine aN (Ip ag ae hW hcu) (fun v5 w5 D5 => ?_)
 obtain ⟨l8, A8, c8, rfl, rd8, gA8, hr8, hl8, ho8, U5⟩ := D5
 have SC : _ ∨ ∀ k, _ → ¬ aH _ k := gA8.imp_right fun h k hk hs => by have := h k hk; have := (Own.ge ae hs).2; omega
 refine aI (fun w6 U6 => ?_)
 refine ak (mkF _ _ _) ?_
 replace ah := U6.af (U5.af (U4.af ah))
 replace ae := (ae.ai U5).ai U6
 replace ag := U6.af (U5.af ag)
 replace rd8 := rd8.ai U6
 refine aN (Vq ag ae hW ah rd8 rfl (by omega)) (fun v7 w7 D7 => ?_)
 obtain ⟨q11, rfl, hq11, U7⟩ := D7
 refine az (lss _ _ _ _) (fun h8 => ?_) (fun h8 => ?_)
 refine aJ ?_
 replace hF := (((((hF.go0 U1).go0 U2).go0 U4).go0 U5).go0 U6).go0 U7
 replace ae := ae.ai U7
 exact ⟨_, rfl, _, _, rfl, hW, hk0, (fun _ => rfl), ae, hF⟩
 refine aC ?_
 refine bM (fun g w' => ∃ (c1 : List Gs.Cell), (Gs.Kp cs c1) ∧ (Gs.Pw r c n c1 cur) ∧ (Own B0 w' 37 5 (.slice A n cp) (rows Gs.cv c1)) ∧ (aA (aH (.slice A n cp)) w w')) (fun J1 hJ1 => ?_) (fun gJ1 jT hI => ?_)
 refine ed (fun g w' => ∃ (k : Nat) (c1 : List Gs.Cell), (g 4 = Z.i (k : Int)) ∧ (k < l8.length) ∧ (Gs.Kp cs c1) ∧ (Gs.Pw r c n c1 cur) ∧ (Z.h w' bp #[Z.i r, Z.i c, .slice A n cp, Z.i cur] 91) ∧ (Own B0 w' 37 5 (.slice A n cp) (rows Gs.cv c1)) ∧ (Z.h w' b1 #[Z.p bp] 33) ∧ (Rd w' A8 (vals .i64 l8)) ∧ (vals .i64 l8 = [] ∨ ∀ k, eY A8 k → ¬ aH (.slice A n cp) k) ∧ (aA (aH (.slice A n cp)) w w')) (fun g w' => (RowKit.intOf (g 4)).toNat) ?_ (fun g2 qK hI => ?_)
 replace hF := (((((hF.go0 U1).go0 U2).go0 U4).go0 U5).go0 U6).go0 U7
 replace ae := ae.ai U7
 replace rd8 := rd8.ai U7
 replace ag := U7.af ag
 replace ah := U7.af ah
 exact ⟨q11.toNat, cs, (congrArg (Value.int .i64) (by omega)), (by omega), hk0, hW, ag, ae, ah, rd8, (by assumption), hF⟩
 replace hF := (((((hF.go0 U1).go0 U2).go0 U4).go0 U5).go0 U6).go0 U7
 replace ae := ae.ai U7
 replace rd8 := rd8.ai U7
 replace ag := U7.af ag
 replace ah := U7.af ah
 obtain ⟨k, c1, g4, hk, hk1, hW1, ag, ae, ah, rd8, na_rd8, hF⟩ := hI
 rw [g4]
 refine az (gtr _ _ _ _) (fun h10 => ?_) (fun h10 => ?_)
 refine aJ ?_
 refine dS (S := no) (fun nR bK => ?_)
 replace ah := bK.af ah
 refine Z.m ah ?_
 replace rd8 := rd8.ai bK
 refine ni (by kernel_rfl) (by kernel_rfl) (fun w' hw' => rd8.ai hw') (Fr.refl _ _ _) (by rfl) (by omega) (by omega) (fun x12 Ob => ?_)
 simp only [Int.toNat_natCast] at Ob
 refine Z.m ah ?_
 refine bJ (fun w' hw' => (xA _ (by omega))) ?_
 refine ni (by kernel_rfl) (by kernel_rfl) (fun w' hw' => rd8.ai hw') (Fr.refl _ _ _) (by rfl) (by omega) (by omega) (fun V8 BJ => ?_)
 replace ae := ae.ai bK
 replace ag := bK.af ag
 refine fO (fun w' hw' => by have ag := hw'.af ag; have ae := ae.ai hw'; exact iF ag ae hW1.1 (i := V8)) ?_
 refine aI (fun uG bW => ?_)
 replace ae := ae.ai bW
 replace ag := bW.af ag
 refine aN (jv ag ae hW1.1 (i := x12) (x := Gs.bV c1 V8)) (fun v16 w16 D16 => ?_)
 obtain ⟨rfl, N16, bQ⟩ := D16
 have aK := ae
 replace ag := bQ.get ag (fun h => Own.aS aK ag (by decide) _ h rfl)
 replace ae := N16
 replace ah := bW.af ah
 replace ah := bQ.get ah (fun h => iq _ h rfl)
 replace rd8 := rd8.ai bW
 replace rd8 := rd8.dX bQ SC
 replace hF := (hF.go0 bK).go0 bW
 replace hF := hF.go bQ (fun i h hs => by exact hs)
 clear aK
 refine aI (fun uS df => ?_)
 refine ak (xA _ (by omega)) ?_
 replace ae := ae.ai df
 replace rd8 := rd8.ai df
 replace ag := df.af ag
 replace ah := df.af ah
 replace hF := hF.go0 df
 exact ⟨⟨k - 1, _, (congrArg (Value.int .i64) (by omega)), (by omega), (hk1.set (hr8.get Ob).2 (((hk1.2 _).1).trans (hr8.get BJ).2)), (hW1.set _ (Gs.sG hW1.2.1 _)), ag, ae, ah, rd8, (by assumption), hF⟩, aiw (by rfl) rfl (by omega)⟩
 refine aC ?_
 refine hJ1 _ _ ?_
 exact ⟨_, hk1, hW1, ae, hF⟩
 replace hF := (((((hF.go0 U1).go0 U2).go0 U4).go0 U5).go0 U6).go0 U7
 replace ae := ae.ai U7
 obtain ⟨c1, hk1, hW1, ae, hF⟩ := hI
 exact ⟨_, rfl, _, _, rfl, hW1, hk1, (fun h => absurd rfl h), ae, hF⟩
theorem SE {r c cur : Int} {A : Option Addr} {n cp bp B0 : Nat} {cs : List Gs.Cell} {w : World} (ag : Z.h w bp #[Z.i r, Z.i c, .slice A n cp, Z.i cur] 91) (ae : Own B0 w 37 5 (.slice A n cp) (rows Gs.cv cs)) (hW : Gs.Pw r c n cs cur) {x : Int} (hxb : 0 ≤ x ∧ x ≤ 255) :
    oX 71 #[Z.p bp, Z.u x] w fun e w' => ∃ v, e = .returned v ∧ ∃ q : Int, v = Z.i q ∧ (q = 0 → Gs.jX cs cur = true) ∧ aA no w w' := by
 refine V9.calls ?_
 unfold V9
 obtain ⟨hn, hcw, hcu, hp, hN, hb⟩ := id hW; have hrc := hW.rc
 have hF : aA no w w := Fr.refl _ _ _
 refine aB (eF ag ae hn) (fun w1 U1 => ?_)
 replace ae := ae.ai U1
 replace ag := U1.af ag
 refine aB (tu ag ae hn hN hb hcw (i := cur)) (fun w2 U2 => ?_)
 cases hob : Gs.lZ cs cur
 refine Z.e ?_
 refine Z.e ?_
 refine Z.n ((Gs.fv Gs.zf).toArray) (fun b3 w3 e3 bC _ U3 => ?_)
 replace ag := U2.af ag
 have lH : bp ≠ b3 := by have := au ag; omega
 replace ae := ae.ai U2
 have iQ := ae.apart e3
 replace hF := (hF.go0 U1).go0 U2
 have jF : w.heap.size ≤ b3 := by have := hF.size; omega
 refine Z.t 3 ((Gs.fv (Gs.l7 cs cur)).toArray) (by (simp [Value.cells, Value.oneCell', Gs.cv, Gs.fv, Gs.ie]; done)) bC (fun w4 N4 _ U4 => ?_)
 replace ae := (ae.ai U3).aF U4 iQ
 replace ag := U4.aj (U3.af ag) lH
 refine aB (eF ag ae hn) (fun w5 U5 => ?_)
 replace ae := ae.ai U5
 replace ag := U5.af ag
 refine dQ (nJ ag ae hn hN hb hcw (i := cur)) (fun w6 U6 h6 => ?_) (fun w6 U6 h6 => ?_)
 refine ak (lV) ?_
 refine aC (aQ (aQ (aQ (aU (aQ (aQ (aQ (aU (aC ?_)))))))))
 replace hF := (((hF.go0 U3).go1 U4 jF).go0 U5).go0 U6
 exact ⟨_, rfl, _, rfl, by exact fun _ => by assumption, hF⟩
 refine ak (nI) ?_
 refine aJ ?_
 replace hF := (((hF.go0 U3).go1 U4 jF).go0 U5).go0 U6
 exact ⟨_, rfl, _, rfl, by exact fun h => absurd h (by decide), hF⟩
 refine Z.e ?_
 refine Z.e ?_
 refine Z.n ((Gs.fv Gs.zf).toArray) (fun b9 w9 e9 je _ U9 => ?_)
 replace ag := U2.af ag
 have FB : bp ≠ b9 := by have := au ag; omega
 replace ae := ae.ai U2
 have zo := ae.apart e9
 replace hF := (hF.go0 U1).go0 U2
 have pX : w.heap.size ≤ b9 := by have := hF.size; omega
 refine Z.t 3 ((Gs.fv (Gs.l7 cs cur)).toArray) (by (simp [Value.cells, Value.oneCell', Gs.cv, Gs.fv, Gs.ie]; done)) je (fun w10 je _ aY => ?_)
 replace ae := (ae.ai U9).aF aY zo
 replace ag := aY.aj (U9.af ag) FB
 refine aB (eF ag ae hn) (fun nR bK => ?_)
 replace ae := ae.ai bK
 replace ag := bK.af ag
 refine dQ (nJ ag ae hn hN hb hcw (i := cur)) (fun w12 di h12 => ?_) (fun w12 di h12 => ?_)
 refine ak (lV) ?_
 refine aC (aX ?_)
 refine Z.f 2 ?_
 refine aX ?_
 replace je := di.af (bK.af je)
 refine Z.l je ?_
 refine aX ?_
 refine dQ (yR (Gs.X8 hcw cur)) (fun vY dI h13 => ?_) (fun vY dI h13 => ?_)
 simp only [Z.d, Z.c] at h13
 refine aT (aX (aX ?_))
 refine dQ (L6 hxb) (fun sO dC h14 => ?_) (fun sO dC h14 => ?_)
 simp only [Z.d, Z.c] at h14
 refine aX ?_
 refine ak (lV) ?_
 refine aT (aC ?_)
 replace hF := (((((hF.go0 U9).go1 aY pX).go0 bK).go0 di).go0 dI).go0 dC
 exact ⟨_, rfl, _, rfl, by exact fun _ => by assumption, hF⟩
 simp only [Z.d, Z.c] at h14
 refine aX ?_
 refine ak (nI) ?_
 refine aT (aJ ?_)
 replace hF := (((((hF.go0 U9).go1 aY pX).go0 bK).go0 di).go0 dI).go0 dC
 exact ⟨_, rfl, _, rfl, by exact fun _ => by assumption, hF⟩
 simp only [Z.d, Z.c] at h13
 refine aT (aQ (aQ (aQ (aU (aC ?_)))))
 replace hF := ((((hF.go0 U9).go1 aY pX).go0 bK).go0 di).go0 dI
 exact ⟨_, rfl, _, rfl, by exact fun _ => by assumption, hF⟩
 refine ak (nI) ?_
 refine aJ ?_
 replace hF := (((hF.go0 U9).go1 aY pX).go0 bK).go0 di
 exact ⟨_, rfl, _, rfl, by exact fun h => absurd h (by decide), hF⟩
theorem BK {r c cur : Int} {A : Option Addr} {n cp bp B0 : Nat} {cs : List Gs.Cell} {w : World} (ag : Z.h w bp #[Z.i r, Z.i c, .slice A n cp, Z.i cur] 91) (ae : Own B0 w 37 5 (.slice A n cp) (rows Gs.cv cs)) (hW : Gs.Pw r c n cs cur) {x : Int} {ins : Bool} (hxb : 0 ≤ x ∧ x ≤ 255) :
    oX 37 #[Z.p bp, Z.u x, .bool ins] w fun e w' => ∃ v, e = .returned v ∧ ∃ (q : Int) (c1 : List Gs.Cell) (cur1 : Int), v = Z.i q ∧ Gs.Pw r c n c1 cur1 ∧ ((q = 0 ∧ Gs.jX cs cur = true ∧ Gs.Mk cs c1 cur) ∨ (q ≠ 0 ∧ c1 = cs ∧ cur1 = cur)) ∧ Z.h w' bp #[Z.i r, Z.i c, .slice A n cp, Z.i cur1] 91 ∧ Own B0 w' 37 5 (.slice A n cp) (rows Gs.cv c1) ∧ aA (fun k => aH (.slice A n cp) k ∨ k = bp) w w' := by
 refine We.calls ?_
 unfold We
 obtain ⟨hn, hcw, hcu, hp, hN, hb⟩ := id hW; have hrc := hW.rc
 have hk0 := Gs.Kp.refl cs
 have hF : aA (fun k => aH (.slice A n cp) k ∨ k = bp) w w := Fr.refl _ _ _
 refine aB (eF ag ae hn) (fun w1 U1 => ?_)
 replace ae := ae.ai U1
 replace ag := U1.af ag
 refine aN (SE ag ae hW hxb) (fun v2 w2 D2 => ?_)
 obtain ⟨e15, rfl, he15, U2⟩ := D2
 refine az (kR _ _ _ _ _) (fun h3 => ?_) (fun h3 => ?_)
 refine aJ ?_
 replace hF := (hF.go0 U1).go0 U2
 replace ae := ae.ai U2
 replace ag := U2.af ag
 exact ⟨_, rfl, _, _, _, rfl, hW, .inr ⟨by assumption, rfl, rfl⟩, ag, ae, hF⟩
 refine aC ?_
 have hop := he15 (Classical.not_not.1 (by assumption))
 replace ae := ae.ai U2
 replace ag := U2.af ag
 refine aB (iF ag ae hn (i := cur)) (fun w5 U5 => ?_)
 refine Z.n ((Gs.cv Gs.zc).toArray) (fun b6 w6 e6 nU _ U6 => ?_)
 replace ag := U5.af ag
 have vk : bp ≠ b6 := by have := au ag; omega
 replace ae := ae.ai U5
 have oZ := ae.apart e6
 replace hF := ((hF.go0 U1).go0 U2).go0 U5
 have wP : w.heap.size ≤ b6 := by have := hF.size; omega
 refine Z.t 5 ((Gs.cv (Gs.bV cs cur)).toArray) (by (simp [Value.cells, Value.oneCell', Gs.cv, Gs.fv, Gs.ie]; done)) nU (fun w7 nU _ U7 => ?_)
 refine bM (fun g w' => ∃ (c1 : List Gs.Cell), (Gs.Kp cs c1) ∧ (Gs.Pw r c n c1 cur) ∧ (Gs.jX cs cur = true) ∧ (Z.h w' bp #[Z.i r, Z.i c, .slice A n cp, Z.i cur] 91) ∧ (Own B0 w' 37 5 (.slice A n cp) (rows Gs.cv c1)) ∧ (Z.h w' b6 ((Gs.cv (Gs.bV cs cur)).toArray) 37) ∧ (aA (fun k => aH (.slice A n cp) k ∨ k = bp) w w')) (fun J1 hJ1 => ?_) (fun gJ1 jT hI => ?_)
 refine jQ (fun h8 => ?_) (fun h8 => ?_)
 replace ae := (ae.ai U6).aF U7 oZ
 replace ag := U7.aj (U6.af ag) vk
 refine aN (Oj ag ae hW) (fun v9 w9 D9 => ?_)
 obtain ⟨e24, c1, rfl, hW1, hk1, he24, N9, U9⟩ := D9
 have aK := ae
 replace ag := U9.get ag (fun h => Own.aS aK ag (by decide) _ h rfl)
 replace ae := N9
 replace nU := U9.get nU (fun h => oZ _ h rfl)
 replace hF := (hF.go0 U6).go1 U7 wP
 replace hF := hF.go U9 (fun i h hs => .inl hs)
 clear aK
 refine az (kR _ _ _ _ _) (fun h10 => ?_) (fun h10 => ?_)
 refine aJ ?_
 exact ⟨_, rfl, _, _, _, rfl, hW1, .inr ⟨by assumption, he24 (by assumption), rfl⟩, ag, ae, hF⟩
 refine aC ?_
 refine hJ1 _ _ ?_
 exact ⟨_, (by exact hk1), (by exact hW1), hop, ag, ae, nU, hF⟩
 refine hJ1 _ _ ?_
 replace ae := (ae.ai U6).aF U7 oZ
 replace ag := U7.aj (U6.af ag) vk
 replace hF := (hF.go0 U6).go1 U7 wP
 exact ⟨_, (by exact hk0), (by exact hW), hop, ag, ae, nU, hF⟩
 replace ae := (ae.ai U6).aF U7 oZ
 replace ag := U7.aj (U6.af ag) vk
 replace hF := (hF.go0 U6).go1 U7 wP
 obtain ⟨c1, hk1, hW1, hop, ag, ae, nU, hF⟩ := hI
 refine Z.f 3 ?_
 refine Z.l nU ?_
 refine Z.f 4 ?_
 refine Z.l nU ?_
 refine ak (bG (l := [(0, 1), (1, 1), (2, 1), (3, 1), (4, 1)]) (z := #[Z.u 0, .bool false, .bool false, Z.u 0, Z.u 0]) (cs := Gs.cv ⟨x, false, false, (Gs.bV cs cur).l, (Gs.bV cs cur).c⟩) (by kernel_rfl) (by rfl)) ?_
 have hw2 := hW1.set cur (x := ⟨x, false, false, (Gs.bV cs cur).l, (Gs.bV cs cur).c⟩) hxb
 have hw3 := hw2.mark cur
 have hmk := Gs.Mk.of (i := cur) (x := ⟨x, false, false, (Gs.bV cs cur).l, (Gs.bV cs cur).c⟩) (Gs.agw hop) rfl hk1
 refine aN (jv ag ae hW1.1 (i := cur) (x := ⟨x, false, false, (Gs.bV cs cur).l, (Gs.bV cs cur).c⟩)) (fun v13 vY D13 => ?_)
 obtain ⟨rfl, N13, dI⟩ := D13
 have aK := ae
 replace ag := dI.get ag (fun h => Own.aS aK ag (by decide) _ h rfl)
 replace ae := N13
 replace hF := hF.go dI (fun i h hs => .inl hs)
 clear aK
 refine aN (yc ag ae hw2.1 hN hb hw2.2.1 (i := cur)) (fun v14 sO D14 => ?_)
 obtain ⟨rfl, N14, dC⟩ := D14
 have aK := ae
 replace ag := dC.get ag (fun h => Own.aS aK ag (by decide) _ h rfl)
 replace ae := N14
 replace hF := hF.go dC (fun i h hs => .inl hs)
 clear aK
 refine aN (Ya ag ae hw3) (fun v15 uG D15 => ?_)
 obtain ⟨cur2, rfl, hW2, N15, bW⟩ := D15
 replace ae := ae.aF bW (Own.aS ae (by assumption) (by decide))
 replace ag := N15
 replace hF := hF.go bW (fun i _ h => .inr h)
 exact ⟨_, rfl, _, _, _, rfl, hW2, .inl ⟨rfl, hop, hmk⟩, ag, ae, hF⟩
theorem L8 {r c cur : Int} {A : Option Addr} {n cp bp B0 : Nat} {cs : List Gs.Cell} {w : World} (ag : Z.h w bp #[Z.i r, Z.i c, .slice A n cp, Z.i cur] 91) (ae : Own B0 w 37 5 (.slice A n cp) (rows Gs.cv cs)) (hW : Gs.Pw r c n cs cur)  :
    oX 91 #[Z.p bp] w fun e w' => ∃ v, e = .returned v ∧ ∃ (q : Int) (c1 : List Gs.Cell) (cur1 : Int), v = Z.i q ∧ Gs.Pw r c n c1 cur1 ∧ ((q = 0 ∧ Gs.jX cs cur = true ∧ Gs.Mk cs c1 cur) ∨ (q ≠ 0 ∧ c1 = cs ∧ cur1 = cur)) ∧ Z.h w' bp #[Z.i r, Z.i c, .slice A n cp, Z.i cur1] 91 ∧ Own B0 w' 37 5 (.slice A n cp) (rows Gs.cv c1) ∧ aA (fun k => aH (.slice A n cp) k ∨ k = bp) w w' := by
 refine F91.calls ?_
 unfold F91
 obtain ⟨hn, hcw, hcu, hp, hN, hb⟩ := id hW; have hrc := hW.rc
 have hk0 := Gs.Kp.refl cs
 have hF : aA (fun k => aH (.slice A n cp) k ∨ k = bp) w w := Fr.refl _ _ _
 refine aB (eF ag ae hn) (fun w1 U1 => ?_)
 replace ae := ae.ai U1
 replace ag := U1.af ag
 refine dQ (nJ ag ae hn hN hb hcw (i := cur)) (fun w2 U2 h2 => ?_) (fun w2 U2 h2 => ?_)
 refine ak (lV) ?_
 refine aC ?_
 have hop : Gs.jX cs cur = true := by assumption
 replace ae := ae.ai U2
 replace ag := U2.af ag
 refine aN (Ip ag ae hW hcu) (fun v3 w3 D3 => ?_)
 obtain ⟨l14, A14, c14, rfl, uF, gA14, hr14, hl14, ho14, U3⟩ := D3
 have QD : _ ∨ ∀ k, _ → ¬ aH _ k := gA14.imp_right fun h k hk hs => by have := h k hk; have := (Own.ge ae hs).2; omega
 have hlz := List.length_pos_iff.2 (ho14 hop)
 refine bM (fun g w' => ∃ (c1 : List Gs.Cell), (Gs.Kp cs c1) ∧ (Gs.Pw r c n c1 cur) ∧ (Z.h w' bp #[Z.i r, Z.i c, .slice A n cp, Z.i cur] 91) ∧ (Own B0 w' 37 5 (.slice A n cp) (rows Gs.cv c1)) ∧ (Rd w' A14 (vals .i64 l14)) ∧ (aA (fun k => aH (.slice A n cp) k ∨ k = bp) w w')) (fun J1 hJ1 => ?_) (fun gJ1 jT hI => ?_)
 refine ak (gZ (by kernel_rfl) _ _ _) ?_
 refine ak (xA _ (by omega)) ?_
 refine ed (fun g w' => ∃ (k : Nat) (c1 : List Gs.Cell), (g 18 = Z.i (k : Int)) ∧ (k ≤ (l14.length - 1)) ∧ (Gs.Kp cs c1) ∧ (Gs.Pw r c n c1 cur) ∧ (Z.h w' bp #[Z.i r, Z.i c, .slice A n cp, Z.i cur] 91) ∧ (Own B0 w' 37 5 (.slice A n cp) (rows Gs.cv c1)) ∧ (Rd w' A14 (vals .i64 l14)) ∧ (aA (fun k => aH (.slice A n cp) k ∨ k = bp) w w')) (fun g w' => (l14.length - 1) - (RowKit.intOf (g 18)).toNat) ?_ (fun g2 qK hI => ?_)
 replace hF := ((hF.go0 U1).go0 U2).go0 U3
 replace ae := ae.ai U3
 replace ag := U3.af ag
 exact ⟨0, cs, (by rfl), Nat.zero_le _, hk0, hW, ag, ae, uF, hF⟩
 replace hF := ((hF.go0 U1).go0 U2).go0 U3
 replace ae := ae.ai U3
 replace ag := U3.af ag
 obtain ⟨k, c1, g18, hk, hk1, hW1, ag, ae, uF, hF⟩ := hI
 rw [g18]
 refine az (lss _ _ _ _) (fun h4 => ?_) (fun h4 => ?_)
 refine aJ ?_
 refine dS (S := no) (fun w5 U5 => ?_)
 replace uF := uF.ai U5
 refine ni (by kernel_rfl) (by kernel_rfl) (fun w' hw' => uF.ai hw') (Fr.refl _ _ _) (by rfl) (by omega) (by omega) (fun x6 hx6 => ?_)
 simp only [Int.toNat_natCast] at hx6
 refine bJ (fun w' hw' => (dK _ (by omega))) ?_
 refine ni (by kernel_rfl) (by kernel_rfl) (fun w' hw' => uF.ai hw') (Fr.refl _ _ _) (by rfl) (by omega) (by omega) (fun x7 hx7 => ?_)
 replace ae := ae.ai U5
 replace ag := U5.af ag
 refine fO (fun w' hw' => by have ag := hw'.af ag; have ae := ae.ai hw'; exact iF ag ae hW1.1 (i := x7)) ?_
 refine aI (fun w9 U9 => ?_)
 replace ae := ae.ai U9
 replace ag := U9.af ag
 refine aN (jv ag ae hW1.1 (i := x6) (x := Gs.bV c1 x7)) (fun v10 w10 D10 => ?_)
 obtain ⟨rfl, N10, aY⟩ := D10
 have aK := ae
 replace ag := aY.get ag (fun h => Own.aS aK ag (by decide) _ h rfl)
 replace ae := N10
 replace uF := uF.ai U9
 replace uF := uF.dX aY QD
 replace hF := (hF.go0 U5).go0 U9
 replace hF := hF.go aY (fun i h hs => .inl hs)
 clear aK
 refine aI (fun nR bK => ?_)
 refine ak (dK _ (by omega)) ?_
 replace ae := ae.ai bK
 replace uF := uF.ai bK
 replace ag := bK.af ag
 replace hF := hF.go0 bK
 exact ⟨⟨k + 1, _, (by rfl), by omega, (hk1.set (hr14.get hx6).2 (((hk1.2 _).1).trans (hr14.get hx7).2)), (hW1.set _ (Gs.sG hW1.2.1 _)), ag, ae, uF, hF⟩, cnt_lt (by rfl) rfl (by omega)⟩
 refine aC ?_
 refine hJ1 _ _ ?_
 exact ⟨_, hk1, hW1, ag, ae, uF, hF⟩
 replace hF := ((hF.go0 U1).go0 U2).go0 U3
 replace ae := ae.ai U3
 replace ag := U3.af ag
 obtain ⟨c1, hk1, hW1, ag, ae, uF, hF⟩ := hI
 refine ak (gZ (by kernel_rfl) _ _ _) ?_
 refine ak (xA _ (by omega)) ?_
 refine mF (by kernel_rfl) (by kernel_rfl) uF (by rfl) (by omega) (by omega) (fun x12 Ob => ?_)
 refine ak (bG (l := [(0, 1), (1, 1), (2, 1), (3, 1), (4, 1)]) (z := #[Z.u 0, .bool false, .bool false, Z.u 0, Z.u 0]) (cs := (Gs.cv Gs.zc)) (by kernel_rfl) (by rfl)) ?_
 have hw2 := hW1.set x12 Gs.Ad
 have hw3 := hw2.mark cur
 have hmk : Gs.Mk cs (Gs.o5 (Gs.jb c1 x12 Gs.zc) cur) cur := ⟨_, hk1.set (hr14.get Ob).2 rfl, rfl⟩
 refine aN (jv ag ae hW1.1 (i := x12) (x := Gs.zc)) (fun v13 vY D13 => ?_)
 obtain ⟨rfl, N13, dI⟩ := D13
 have aK := ae
 replace ag := dI.get ag (fun h => Own.aS aK ag (by decide) _ h rfl)
 replace ae := N13
 replace hF := hF.go dI (fun i h hs => .inl hs)
 clear aK
 refine aN (yc ag ae hw2.1 hN hb hw2.2.1 (i := cur)) (fun v14 sO D14 => ?_)
 obtain ⟨rfl, N14, dC⟩ := D14
 have aK := ae
 replace ag := dC.get ag (fun h => Own.aS aK ag (by decide) _ h rfl)
 replace ae := N14
 replace hF := hF.go dC (fun i h hs => .inl hs)
 clear aK
 exact ⟨_, rfl, _, _, _, rfl, hw3, .inl ⟨rfl, hop, hmk⟩, ag, ae, hF⟩
 refine ak (nI) ?_
 refine aJ ?_
 replace hF := (hF.go0 U1).go0 U2
 replace ae := ae.ai U2
 replace ag := U2.af ag
 exact ⟨_, rfl, _, _, _, rfl, hW, .inr ⟨by decide, rfl, rfl⟩, ag, ae, hF⟩
theorem JD {r c cur : Int} {A : Option Addr} {n cp bp B0 b1 b2 : Nat} {f : Gs.qN} {y : Value} {J : Nat → World → Prop} {X : World → Prop} {w : World} (hcap : ∀ k w', J k w' → Z.h w' b1 #[Z.p bp] 33 ∧ Z.h w' b2 ((Gs.fv f).toArray) 173 ∧ Z.h w' bp #[Z.i r, Z.i c, .slice A n cp, Z.i cur] 91 ∧ ∃ cs : List Gs.Cell, n = cs.length ∧ Own B0 w' 37 5 (.slice A n cp) (rows Gs.cv cs)) (hst : ∀ k w' w'', J k w' → aA no w' w'' → J k w'') (hsx : ∀ w' w'', X w' → aA no w' w'' → X w'') (hN : Gs.aZ r c = n) (hb : n ≤ 4096) (hy : ∀ k w' x, (Gs.iy n f)[k]? = some x → J k w' → EC Tryz.prog y #[Z.i x] w' (J (k + 1)) X) (h0 : J 0 w) :
    oX 161 #[y, Z.p b2, Z.p b1] w fun e w' => (∃ v, e = .returned v) ∧ (J (Gs.iy n f).length w' ∨ X w') := by
 refine Ol.calls ?_
 unfold Ol
 obtain ⟨ah, ax, ag, cs, hn, ae⟩ := hcap _ _ h0
 refine dS (S := no) (fun w1 U1 => ?_)
 replace h0 := hst _ _ _ h0 U1
 refine Z.g 0 ?_
 replace ax := U1.af ax
 refine Z.m ax ?_
 refine lD (fun w' hw' => (lss _ _ _ _)) (fun h2 => ?_) (fun h2 => ?_)
 refine jc (jc (jc (jc (jc (lM ?_)))))
 refine aI (fun w3 U3 => ?_)
 replace h0 := hst _ _ _ h0 U3
 refine aJ ?_
 exact ⟨⟨_, rfl⟩, .inl (by rw [Gs.xB (by omega)]; exact h0)⟩
 refine eG ?_
 refine Z.g 0 ?_
 refine eG ?_
 refine Z.m ax ?_
 refine eG ?_
 replace ah := U1.af ah
 refine Z.m ah ?_
 refine eG ?_
 replace ae := ae.ai U1
 replace ag := U1.af ag
 refine fO (fun w' hw' => by have ag := hw'.af ag; have ae := ae.ai hw'; exact fG ag ae hn) ?_
 refine eG ?_
 refine lD (fun w' hw' => (geq _ _ _ _)) (fun h6 => ?_) (fun h6 => ?_)
 refine jq ?_
 refine aI (fun w7 U7 => ?_)
 replace h0 := hst _ _ _ h0 U7
 refine aJ ?_
 exact ⟨⟨_, rfl⟩, .inl (by rw [Gs.xB (by omega)]; exact h0)⟩
 refine jq ?_
 refine aI (fun w9 U9 => ?_)
 replace h0 := hst _ _ _ h0 U9
 refine aC ?_
 refine dS (S := no) (fun w10 aY => ?_)
 replace h0 := hst _ _ _ h0 aY
 refine Z.g 1 ?_
 replace ax := aY.af (U9.af ax)
 refine Z.m ax ?_
 refine bJ (fun w' hw' => (aix _ _ _ _ _)) ?_
 replace ah := aY.af (U9.af ah)
 refine Z.m ah ?_
 replace ae := (ae.ai U9).ai aY
 replace ag := aY.af (U9.af ag)
 refine fO (fun w' hw' => by have ag := hw'.af ag; have ae := ae.ai hw'; exact fG ag ae hn) ?_
 refine bJ (fun w' hw' => (aiy _ _ _ _ _)) ?_
 refine aI (fun w12 di => ?_)
 replace h0 := hst _ _ _ h0 di
 refine ed (fun g w' => ∃ k : Nat, k ≤ (Gs.iy n f).length ∧ g 21 = Z.i (k : Int) ∧ J k w') (fun g w' => (Gs.iy n f).length - (RowKit.intOf (g 21)).toNat) ?_ (fun g1 wl1 hI => ?_)
 have hpl := Gs.tK (N := n) (f := f) (by omega)
 exact ⟨0, Nat.zero_le _, rfl, h0⟩
 have hpl := Gs.tK (N := n) (f := f) (by omega)
 obtain ⟨k, hk, g21, hJ⟩ := hI
 rw [g21]
 replace ae := ae.ai di
 replace ah := di.af ah
 replace ax := di.af ax
 replace ag := di.af ag
 obtain ⟨ah, ax, ag, cs, hn, ae⟩ := hcap _ _ hJ
 refine az (lss _ _ _ _) (fun h13 => ?_) (fun h13 => ?_)
 refine aJ ?_
 refine dS (S := no) (fun sO dC => ?_)
 replace hJ := hst _ _ _ hJ dC
 replace ah := dC.af ah
 refine Z.m ah ?_
 replace ae := ae.ai dC
 replace ag := dC.af ag
 refine fO (fun w' hw' => by have ag := hw'.af ag; have ae := ae.ai hw'; exact jS ag ae hn) ?_
 refine Z.g 0 ?_
 replace ax := dC.af ax
 refine Z.m ax ?_
 refine bJ (fun w' hw' => (dK _ (by omega))) ?_
 refine fO (fun w' hw' => mJ (i := f.s) (j := (k : Int) + 1)) ?_
 rw [hN, Gs.rO (by omega), show ((k : Int) + 1) = ((k + 1 : Nat) : Int) by omega]
 refine aI (fun uS df => ?_)
 replace hJ := hst _ _ _ hJ df
 refine FH (hy k _ _ (Gs.xC (by omega)) hJ) (fun wy18 hJ2 => ?_) (fun wy18 hX => ?_)
 replace ae := ae.ai df
 replace ah := df.af ah
 replace ax := df.af ax
 replace ag := df.af ag
 obtain ⟨ah, ax, ag, cs, hn, ae⟩ := hcap _ _ hJ2
 refine bJ (fun w' hw' => (lV)) ?_
 refine aI (fun Ar fC => ?_)
 replace hJ2 := hst _ _ _ hJ2 fC
 refine aC ?_
 refine ak (dK _ (by omega)) ?_
 exact ⟨⟨k + 1, by omega, rfl, hJ2⟩, cnt_lt (by rfl) rfl (by omega)⟩
 refine bJ (fun w' hw' => (nI)) ?_
 refine aI (fun xu dR => ?_)
 replace hX := hsx _ _ hX dR
 refine aJ ?_
 exact ⟨⟨_, rfl⟩, .inr hX⟩
 refine aC ?_
 exact ⟨⟨_, rfl⟩, .inl (by rw [show (Gs.iy n f).length = k by omega]; exact hJ)⟩
theorem Vr {r c cur : Int} {A : Option Addr} {n cp bp B0 : Nat} {cs : List Gs.Cell} {w : World} (ag : Z.h w bp #[Z.i r, Z.i c, .slice A n cp, Z.i cur] 91) (ae : Own B0 w 37 5 (.slice A n cp) (rows Gs.cv cs)) (hW : Gs.Pw r c n cs cur) {i : Int} :
    oX 134 #[Z.p bp, Z.i i] w fun e w' => ∃ v, e = .returned v ∧ ∃ (k : Int) (q : Bool) (c1 : List Gs.Cell), v = .tuple #[Z.i k, .bool q] ∧ Gs.Pw r c n c1 cur ∧ ((q = true ∧ Gs.jX cs i = true ∧ Gs.Mk cs c1 i) ∨ (q = false ∧ c1 = cs)) ∧ Own B0 w' 37 5 (.slice A n cp) (rows Gs.cv c1) ∧ aA (aH (.slice A n cp)) w w' := by
 refine Yi.calls ?_
 unfold Yi
 obtain ⟨hn, hcw, hcu, hp, hN, hb⟩ := id hW; have hrc := hW.rc
 have hk0 := Gs.Kp.refl cs
 have xy := au ag
 have l9 := Own.lt ae
 have hF : aA (aH (.slice A n cp)) w w := Fr.refl _ _ _
 refine Z.x _ (fun b1 w1 e1 ah _ U1 => ?_)
 have kX : bp ≠ b1 := by have := au ag; omega
 have iq := ae.apart e1
 have bZ : w.heap.size ≤ b1 := by have := hF.size; omega
 refine Z.x _ (fun b2 w2 e2 ax _ U2 => ?_)
 replace ag := U1.af ag
 have eU : bp ≠ b2 := by have := au ag; omega
 replace ae := ae.ai U1
 have dF := ae.apart e2
 have lI : b1 ≠ b2 := by have := au ah; omega
 replace hF := hF.go0 U1
 have eQ : w.heap.size ≤ b2 := by have := hF.size; omega
 replace ah := U2.af ah
 refine Z.l ah ?_
 refine Z.l ax ?_
 replace ae := ae.ai U2
 replace ag := U2.af ag
 refine dQ (nJ ag ae hn hN hb hcw (i := i)) (fun w3 U3 h3 => ?_) (fun w3 U3 h3 => ?_)
 refine ak (lV) ?_
 refine aC ?_
 replace ah := U3.af ah
 refine Z.l ah ?_
 replace ax := U3.af ax
 refine Z.l ax ?_
 replace hF := (hF.go0 U2).go0 U3
 replace ae := ae.ai U3
 replace ag := U3.af ag
 have hop : Gs.jX cs i = true := by assumption
 have hiC := Gs.L9 hop
 refine aB (tu ag ae hn hN hb hcw (i := i)) (fun w4 U4 => ?_)
 refine Z.e ?_
 refine Z.e ?_
 refine Z.n ((Gs.fv Gs.zf).toArray) (fun b5 w5 e5 bY _ U5 => ?_)
 replace ag := U4.af ag
 have jW : bp ≠ b5 := by have := au ag; omega
 replace ae := ae.ai U4
 have jr := ae.apart e5
 replace ah := U4.af ah
 have gB : b1 ≠ b5 := by have := au ah; omega
 replace ax := U4.af ax
 have mQ : b2 ≠ b5 := by have := au ax; omega
 replace hF := hF.go0 U4
 have ik : w.heap.size ≤ b5 := by have := hF.size; omega
 refine Z.t 3 ((Gs.fv (Gs.l7 cs i)).toArray) (by (simp [Value.cells, Value.oneCell', Gs.cv, Gs.fv, Gs.ie]; done)) bY (fun w6 bY _ U6 => ?_)
 refine ak (Ac _) ?_
 refine jQ (fun h7 => ?_) (fun h7 => ?_)
 refine dS (S := no) (fun w8 U8 => ?_)
 replace ah := U8.af (U6.aj (U5.af ah) gB)
 refine Z.m ah ?_
 replace ae := ((ae.ai U5).aF U6 jr).ai U8
 replace ag := U8.af (U6.aj (U5.af ag) jW)
 replace ax := U8.af (U6.aj (U5.af ax) mQ)
 replace hF := ((hF.go0 U5).go1 U6 ik).go0 U8
 have hob : Gs.lZ cs i = false := by cases hq : Gs.lZ cs i <;> simp_all
 refine fO (fun w' hw' => by have ag := hw'.af ag; have ae := ae.ai hw'; exact fG ag ae hn) ?_
 refine Z.m ax ?_
 refine bJ (fun w' hw' => (xA _ (by omega))) ?_
 refine aI (fun w10 aY => ?_)
 replace ah := aY.af ah
 refine Z.l ah ?_
 replace ax := aY.af ax
 refine Z.l ax ?_
 refine ak (bG (l := [(0, 1), (1, 1), (2, 1), (3, 1), (4, 1)]) (z := #[Z.u 0, .bool false, .bool false, Z.u 0, Z.u 0]) (cs := (Gs.cv Gs.zc)) (by kernel_rfl) (by rfl)) ?_
 replace ae := ae.ai aY
 replace ag := aY.af ag
 refine aN (Iq ag ae hn (i := i) (j := 0) (x := Gs.zc) hN) (fun v11 nR D11 => ?_)
 obtain ⟨rfl, N11, bK⟩ := D11
 have aK := ae
 replace ae := N11
 replace hF := hF.go0 aY
 replace hF := hF.go bK (fun i h hs => by exact hs)
 clear aK
 have hk1 : Gs.Kp cs (Gs.su cs (Gs.qB (Gs.aZ r c) i 0) Gs.zc) := Gs.Kp.fill rfl hk0 (fun y hy => Gs.Su hiC hob (by have := Gs.ac5 hy; omega))
 show lQ [] _ _
 exact ⟨_, rfl, _, _, _, rfl, hW.fill _ Gs.Ad, .inl ⟨rfl, hop, Gs.Mk.free hk1 hob⟩, ae, hF⟩
 refine Z.n (#[Z.i 0]) (fun b14 sO e14 dJ _ dC => ?_)
 replace ag := U6.aj (U5.af ag) jW
 have qm : bp ≠ b14 := by have := au ag; omega
 replace ae := (ae.ai U5).aF U6 jr
 have nK := ae.apart e14
 replace ah := U6.aj (U5.af ah) gB
 have qo : b1 ≠ b14 := by have := au ah; omega
 replace ax := U6.aj (U5.af ax) mQ
 have vw : b2 ≠ b14 := by have := au ax; omega
 have Pz : b5 ≠ b14 := by have := au bY; omega
 replace hF := (hF.go0 U5).go1 U6 ik
 have pF : w.heap.size ≤ b14 := by have := hF.size; omega
 refine Z.s dJ (fun uG dJ _ bW => ?_)
 refine bM (fun g w' => ∃ (D2 : Nat) (c1 : List Gs.Cell) (m : Int), (g 1000000 = mkV D2 undef) ∧ (w.heap.size ≤ D2) ∧ (w'.heap[D2]? = some (.deferred (some []))) ∧ (Gs.lZ cs i = true) ∧ (Z.h w' b14 #[Z.i m] 3) ∧ (Z.h w' bp #[Z.i r, Z.i c, .slice A n cp, Z.i cur] 91) ∧ (Own B0 w' 37 5 (.slice A n cp) (rows Gs.cv c1)) ∧ (Gs.Kp cs c1) ∧ (Gs.Pw r c n c1 cur) ∧ (Z.h w' b1 #[Z.p bp] 33) ∧ (Z.h w' b2 #[Z.i i] 3) ∧ (aA (aH (.slice A n cp)) w w')) (fun J1 hJ1 => ?_) (fun gJ1 jT hI => ?_)
 replace ah := bW.aj (dC.af ah) qo
 refine Z.l ah ?_
 replace bY := bW.aj (dC.af bY) Pz
 refine Z.b 3 ((Gs.fv (Gs.l7 cs i)).toArray) bY ?_
 replace ae := (ae.ai dC).aF bW nK
 replace ag := bW.aj (dC.af ag) qm
 replace ax := bW.aj (dC.af ax) vw
 replace hF := (hF.go0 dC).go1 bW pF
 have hob : Gs.lZ cs i = true := by cases hq : Gs.lZ cs i <;> simp_all
 refine aN (yS ag ae hn (f := Gs.l7 cs i)) (fun v16 w16 D16 => ?_)
 obtain ⟨b1_34, b2_34, rfl, g1_34, g2_34, gW, gY, bQ⟩ := D16
 have akm : bp ≠ b1_34 := by have := au ag; omega
 have agx : ∀ k, aH _ k → k ≠ b1_34 := fun k hk => by have := (Own.ge ae hk).2; omega
 have akn : b1 ≠ b1_34 := by have := au ah; omega
 have ako : b2 ≠ b1_34 := by have := au ax; omega
 have akp : b5 ≠ b1_34 := by have := au bY; omega
 have Ir : b14 ≠ b1_34 := by have := au dJ; omega
 have anc : w.heap.size ≤ b1_34 := by have := hF.size; omega
 have akq : bp ≠ b2_34 := by have := au ag; omega
 have agy : ∀ k, aH _ k → k ≠ b2_34 := fun k hk => by have := (Own.ge ae hk).2; omega
 have akr : b1 ≠ b2_34 := by have := au ah; omega
 have aks : b2 ≠ b2_34 := by have := au ax; omega
 have akt : b5 ≠ b2_34 := by have := au bY; omega
 have Iu : b14 ≠ b2_34 := by have := au dJ; omega
 have ane : w.heap.size ≤ b2_34 := by have := hF.size; omega
 refine tJ (by kernel_rfl) (fun uS l2 D2 Rdy2 Bsy2 Dn2 y2 eD el bg bz lp1 lp2 lp3 sz17 df hY => ?_)
 have lp2_2 := lp2
 replace ag := bQ.af ag
 have SG : bp ≠ D2 := by have := au ag; omega
 have ig : bp ≠ l2 := by have := au ag; omega
 replace ae := ae.ai bQ
 have rP : ∀ k, aH _ k → k ≠ D2 := fun k hk => by have := (Own.ge ae hk).2; omega
 have eH : ∀ k, aH _ k → k ≠ l2 := fun k hk => by have := (Own.ge ae hk).2; omega
 replace ah := bQ.af ah
 have SH : b1 ≠ D2 := by have := au ah; omega
 have iD : b1 ≠ l2 := by have := au ah; omega
 replace ax := bQ.af ax
 have tN : b2 ≠ D2 := by have := au ax; omega
 have gq : b2 ≠ l2 := by have := au ax; omega
 replace bY := bQ.af bY
 have anf : b5 ≠ D2 := by have := au bY; omega
 have ang : b5 ≠ l2 := by have := au bY; omega
 replace dJ := bQ.af dJ
 have PD : b14 ≠ D2 := by have := au dJ; omega
 have sS : b14 ≠ l2 := by have := au dJ; omega
 have aku : b1_34 ≠ D2 := by have := au gW; omega
 have uz : b1_34 ≠ l2 := by have := au gW; omega
 have akv : b2_34 ≠ D2 := by have := au gY; omega
 have uA : b2_34 ≠ l2 := by have := au gY; omega
 replace hF := hF.go0 bQ
 have nz : w.heap.size ≤ D2 := by have := hF.size; omega
 have jC : w.heap.size ≤ l2 := by have := hF.size; omega
 have fB : D2 ≠ l2 := by omega
 replace ae := ae.ai df
 replace ag := df.af ag
 replace ah := df.af ah
 replace ax := df.af ax
 replace dJ := df.af dJ
 replace gW := df.af gW
 replace gY := df.af gY
 replace hF := hF.go0 df
 refine Calls.mono (JD (b1 := b1_34) (b2 := b2_34) (J := (fun (k : Nat) (w' : World) => ∃ (c1 : List Gs.Cell) (m : Int), (Z.h w' b14 #[Z.i m] 3) ∧ (Z.h w' bp #[Z.i r, Z.i c, .slice A n cp, Z.i cur] 91) ∧ (Own B0 w' 37 5 (.slice A n cp) (rows Gs.cv c1)) ∧ (Gs.Kp cs c1) ∧ (Gs.Pw r c n c1 cur) ∧ (Z.h w' b1 #[Z.p bp] 33) ∧ (Z.h w' b2 #[Z.i i] 3) ∧ (Z.h w' b1_34 #[Z.p bp] 33) ∧ (Z.h w' b2_34 ((Gs.fv (Gs.l7 cs i)).toArray) 173) ∧ (w'.heap[D2]? = some (.deferred (some []))) ∧ (w'.heap[l2]? = some Rdy2) ∧ (aA (aH (.slice A n cp)) w w'))) (X := (fun _ => False)) (fun _ w' hJ => by obtain ⟨c1, m, dJ, ag, ae, hk1, hW1, ah, ax, gW, gY, bg, bz, hF⟩ := hJ; exact ⟨gW, gY, ag, _, hW1.1, ae⟩) (fun _ w' w'' hJ U' => by obtain ⟨c1, m, dJ, ag, ae, hk1, hW1, ah, ax, gW, gY, bg, bz, hF⟩ := hJ; exact ⟨c1, m, U'.af dJ, U'.af ag, ae.ai U', hk1, hW1, U'.af ah, U'.af ax, U'.af gW, U'.af gY, U'.af bg, U'.af bz, hF.go0 U'⟩) (fun _ _ h _ => h.elim) hN hb ?_ ?_) ?_
 intro k qK xk hx hI
 obtain ⟨c1, m, dJ, ag, ae, hk1, hW1, ah, ax, gW, gY, bg, bz, hF⟩ := hI
 have hk := (List.getElem?_eq_some_iff.1 hx).1
 refine hY [Z.i xk] _ _ rfl bz ?_
 simp only [List.getD_cons_zero, List.getD_cons_succ]
 refine wE bz (fun xx bz _ dM => ?_)
 replace ae := ae.aF dM (by assumption)
 replace ax := dM.aj ax gq
 refine Z.l ax ?_
 refine az (cZ _ _ _ _ _) (fun h19 => ?_) (fun h19 => ?_)
 refine bu (bu (aT (aJ ?_)))
 replace ah := dM.aj ah iD
 refine Z.l ah ?_
 refine ak (bG (l := [(0, 1), (1, 1), (2, 1), (3, 1), (4, 1)]) (z := #[Z.u 0, .bool false, .bool false, Z.u 0, Z.u 0]) (cs := (Gs.cv Gs.zc)) (by kernel_rfl) (by rfl)) ?_
 replace ag := dM.aj ag ig
 refine aN (jv ag ae hW1.1 (i := xk) (x := Gs.zc)) (fun v20 xu D20 => ?_)
 obtain ⟨rfl, N20, dR⟩ := D20
 have aK := ae
 replace dJ := dM.aj dJ sS
 replace dJ := dR.get dJ (fun h => Own.aS aK dJ (by decide) _ h rfl)
 replace ag := dR.get ag (fun h => Own.aS aK ag (by decide) _ h rfl)
 replace ae := N20
 replace ah := dR.get ah (fun h => Own.aS aK ah (by decide) _ h rfl)
 replace ax := dR.get ax (fun h => Own.aS aK ax (by decide) _ h rfl)
 replace gW := dM.aj gW uz
 replace gW := dR.get gW (fun h => Own.aS aK gW (by decide) _ h rfl)
 replace gY := dM.aj gY uA
 replace gY := dR.get gY (fun h => Own.aS aK gY (by decide) _ h rfl)
 replace bg := dM.aj bg fB
 replace bg := dR.get bg (fun h => Own.kT aK bg _ h rfl)
 replace hF := hF.go1 dM jC
 replace bz := dR.get bz (fun h => Own.iP aK bz (by assumption) _ h rfl)
 replace hF := hF.go dR (fun i h hs => by exact hs)
 clear aK
 refine Z.l dJ ?_
 refine ak (FI _ _ _ _) ?_
 refine Z.s dJ (fun Dc dJ _ dV => ?_)
 replace ae := ae.aF dV (by assumption)
 replace bz := dV.aj bz (Ne.symm sS)
 refine rM bz (fun Ht bz _ gQ => ?_)
 replace ag := dV.aj ag qm
 replace ah := dV.aj ah qo
 replace ax := dV.aj ax vw
 replace gW := dV.aj gW (Ne.symm Ir)
 replace gY := dV.aj gY (Ne.symm Iu)
 replace bg := dV.aj bg (Ne.symm PD)
 replace hF := hF.go1 dV pF
 replace ae := ae.aF gQ (by assumption)
 replace dJ := gQ.aj dJ sS
 replace ag := gQ.aj ag ig
 replace ah := gQ.aj ah iD
 replace ax := gQ.aj ax gq
 replace gW := gQ.aj gW uz
 replace gY := gQ.aj gY uA
 replace bg := gQ.aj bg fB
 replace hF := hF.go1 gQ jC
 exact ⟨_, _, dJ, ag, ae, (by exact hk1.set (Gs.row_in hiC hob (by rw [← hn]; exact hx)).2 rfl), (by exact hW1.set _ Gs.Ad), ah, ax, gW, gY, bg, bz, hF⟩
 refine bD ?_
 replace dJ := dM.aj dJ sS
 refine Z.l dJ ?_
 refine bD ?_
 refine az (gtr _ _ _ _) (fun h23 => ?_) (fun h23 => ?_)
 refine aU (aJ ?_)
 replace ah := dM.aj ah iD
 refine Z.l ah ?_
 refine ak (bG (l := [(0, 1), (1, 1), (2, 1), (3, 1), (4, 1)]) (z := #[Z.u 0, .bool false, .bool false, Z.u 0, Z.u 0]) (cs := (Gs.cv Gs.zc)) (by kernel_rfl) (by rfl)) ?_
 replace ag := dM.aj ag ig
 refine aN (jv ag ae hW1.1 (i := xk) (x := Gs.zc)) (fun v24 Pm D24 => ?_)
 obtain ⟨rfl, N24, jA⟩ := D24
 have aK := ae
 replace dJ := jA.get dJ (fun h => Own.aS aK dJ (by decide) _ h rfl)
 replace ag := jA.get ag (fun h => Own.aS aK ag (by decide) _ h rfl)
 replace ae := N24
 replace ah := jA.get ah (fun h => Own.aS aK ah (by decide) _ h rfl)
 replace ax := jA.get ax (fun h => Own.aS aK ax (by decide) _ h rfl)
 replace gW := dM.aj gW uz
 replace gW := jA.get gW (fun h => Own.aS aK gW (by decide) _ h rfl)
 replace gY := dM.aj gY uA
 replace gY := jA.get gY (fun h => Own.aS aK gY (by decide) _ h rfl)
 replace bg := dM.aj bg fB
 replace bg := jA.get bg (fun h => Own.kT aK bg _ h rfl)
 replace hF := hF.go1 dM jC
 replace bz := jA.get bz (fun h => Own.iP aK bz (by assumption) _ h rfl)
 replace hF := hF.go jA (fun i h hs => by exact hs)
 clear aK
 refine Z.l dJ ?_
 refine ak (FI _ _ _ _) ?_
 refine Z.s dJ (fun GV dJ _ fZ => ?_)
 replace ae := ae.aF fZ (by assumption)
 replace bz := fZ.aj bz (Ne.symm sS)
 refine rM bz (fun LH bz _ iW => ?_)
 replace ag := fZ.aj ag qm
 replace ah := fZ.aj ah qo
 replace ax := fZ.aj ax vw
 replace gW := fZ.aj gW (Ne.symm Ir)
 replace gY := fZ.aj gY (Ne.symm Iu)
 replace bg := fZ.aj bg (Ne.symm PD)
 replace hF := hF.go1 fZ pF
 replace ae := ae.aF iW (by assumption)
 replace dJ := iW.aj dJ sS
 replace ag := iW.aj ag ig
 replace ah := iW.aj ah iD
 replace ax := iW.aj ax gq
 replace gW := iW.aj gW uz
 replace gY := iW.aj gY uA
 replace bg := iW.aj bg fB
 replace hF := hF.go1 iW jC
 exact ⟨_, _, dJ, ag, ae, (by exact hk1.set (Gs.row_in hiC hob (by rw [← hn]; exact hx)).2 rfl), (by exact hW1.set _ Gs.Ad), ah, ax, gW, gY, bg, bz, hF⟩
 refine aU (aC ?_)
 refine rM bz (fun Ij bz _ gm => ?_)
 replace ag := dM.aj ag ig
 replace ah := dM.aj ah iD
 replace gW := dM.aj gW uz
 replace gY := dM.aj gY uA
 replace bg := dM.aj bg fB
 replace hF := hF.go1 dM jC
 replace ae := ae.aF gm (by assumption)
 replace dJ := gm.aj dJ sS
 replace ag := gm.aj ag ig
 replace ah := gm.aj ah iD
 replace ax := gm.aj ax gq
 replace gW := gm.aj gW uz
 replace gY := gm.aj gY uA
 replace bg := gm.aj bg fB
 replace hF := hF.go1 gm jC
 exact ⟨_, _, dJ, ag, ae, (by exact hk1), (by exact hW1), ah, ax, gW, gY, bg, bz, hF⟩
 exact ⟨cs, 0, dJ, ag, ae, hk0, hW, ah, ax, gW, gY, bg, bz, hF⟩
 rintro e wE2 ⟨hv, hI | hI⟩
 obtain ⟨c1, m, dJ, ag, ae, hk1, hW1, ah, ax, gW, gY, bg, bz, hF⟩ := hI
 refine ⟨hv, .inl ⟨bz, fun V6 _ jG => ?_⟩⟩
 replace ae := ae.aF jG (by assumption)
 refine hJ1 _ _ ?_
 replace dJ := jG.aj dJ sS
 replace ag := jG.aj ag ig
 replace ah := jG.aj ah iD
 replace ax := jG.aj ax gq
 replace bg := jG.aj bg fB
 replace hF := hF.go1 jG jC
 exact ⟨_, _, _, (by rfl), nz, bg, hob, dJ, ag, ae, hk1, hW1, ah, ax, hF⟩
 exact hI.elim
 replace ae := (ae.ai dC).aF bW nK
 replace ag := bW.aj (dC.af ag) qm
 replace ah := bW.aj (dC.af ah) qo
 replace ax := bW.aj (dC.af ax) vw
 replace hF := (hF.go0 dC).go1 bW pF
 obtain ⟨D2, c1, m, g1000000, nz, bg, hob, dJ, ag, ae, hk1, hW1, ah, ax, hF⟩ := hI
 rw [g1000000]
 refine dS (S := aH ((.slice A n cp))) (fun V4 kz => ?_)
 replace dJ := kz.af dJ
 refine bJ (fun w' hw' => by have dJ := hw'.get dJ (fun h => nK _ h rfl); exact (kZ (by kernel_rfl) dJ (by rfl))) ?_
 replace ah := kz.af ah
 refine bJ (fun w' hw' => by have ah := (Fr.jg hw').af ah; exact (kZ (by kernel_rfl) ah (by rfl))) ?_
 replace ax := kz.af ax
 refine bJ (fun w' hw' => by have ax := (Fr.jg hw').af ax; exact (kZ (by kernel_rfl) ax (by rfl))) ?_
 refine aI (fun w30 rV => ?_)
 refine jm ?_
 replace ae := (ae.ai kz).ai rV
 replace ag := rV.af (kz.af ag)
 refine aN (yc ag ae hW1.1 hN hb hW1.2.1 (i := i)) (fun v31 w31 D31 => ?_)
 obtain ⟨rfl, N31, o9⟩ := D31
 have aK := ae
 replace bg := rV.af (kz.af bg)
 replace bg := o9.get bg (fun h => Own.kT aK bg _ h rfl)
 replace ae := N31
 replace hF := (hF.go0 kz).go0 rV
 replace hF := hF.go o9 (fun i h hs => by exact hs)
 clear aK
 refine ⟨o9, ?_⟩
 refine aI (fun w32 lU => ?_)
 replace bg := lU.af bg
 refine leave1 bg (fun VY _ og => ?_)
 replace bY := bW.aj (dC.af bY) Pz
 replace ae := ae.ai lU
 replace hF := hF.go0 lU
 replace ae := ae.aF og (Own.kT ae (by assumption))
 replace hF := hF.go1 og nz
 exact ⟨_, rfl, _, _, _, rfl, hW1.mark i, .inl ⟨decide_eq_true (by rw [hk1.SI]; exact (Gs.Yj hob).1), hop, _, hk1, rfl⟩, ae, hF⟩
 refine ak (nI) ?_
 refine aJ ?_
 show lQ [] _ _
 replace hF := (hF.go0 U2).go0 U3
 replace ae := ae.ai U3
 exact ⟨_, rfl, _, _, _, rfl, hW, .inr ⟨rfl, rfl⟩, ae, hF⟩
theorem SK {r c cur : Int} {A : Option Addr} {n cp bp B0 : Nat} {cs : List Gs.Cell} {w : World} (ag : Z.h w bp #[Z.i r, Z.i c, .slice A n cp, Z.i cur] 91) (ae : Own B0 w 37 5 (.slice A n cp) (rows Gs.cv cs)) (hW : Gs.Pw r c n cs cur)  :
    oX 89 #[Z.p bp] w fun e w' => ∃ v, e = .returned v ∧ ∃ (q : Int) (c1 : List Gs.Cell) (cur1 : Int), v = Z.i q ∧ Gs.Pw r c n c1 cur1 ∧ ((q = 0 ∧ Gs.jX cs cur = true ∧ Gs.Mk cs c1 cur) ∨ (q ≠ 0 ∧ c1 = cs ∧ cur1 = cur)) ∧ Z.h w' bp #[Z.i r, Z.i c, .slice A n cp, Z.i cur1] 91 ∧ Own B0 w' 37 5 (.slice A n cp) (rows Gs.cv c1) ∧ aA (fun k => aH (.slice A n cp) k ∨ k = bp) w w' := by
 refine F89.calls ?_
 unfold F89
 obtain ⟨hn, hcw, hcu, hp, hN, hb⟩ := id hW; have hrc := hW.rc
 have hF : aA (fun k => aH (.slice A n cp) k ∨ k = bp) w w := Fr.refl _ _ _
 refine aB (eF ag ae hn) (fun w1 U1 => ?_)
 replace ae := ae.ai U1
 replace ag := U1.af ag
 refine aN (Vr ag ae hW (i := cur)) (fun v2 w2 D2 => ?_)
 obtain ⟨k9, q9, c1, rfl, hW1, hm9, N2, U2⟩ := D2
 have aK := ae
 replace ag := U2.get ag (fun h => Own.aS aK ag (by decide) _ h rfl)
 replace ae := N2
 replace hF := hF.go0 U1
 replace hF := hF.go U2 (fun i h hs => .inl hs)
 clear aK
 refine Z.e ?_
 refine Z.e ?_
 refine ak (Ac _) ?_
 refine jQ (fun h3 => ?_) (fun h3 => ?_)
 rcases hm9 with ⟨hq, ho, hm⟩ | ⟨hq, hc⟩ <;> subst hq <;> first | exact ⟨_, rfl, _, _, _, rfl, hW1, .inr ⟨by decide, hc, rfl⟩, ag, ae, hF⟩ | (exfalso; simp_all; done)
 rcases hm9 with ⟨hq, ho, hm⟩ | ⟨hq, hc⟩ <;> subst hq <;> first | exact ⟨_, rfl, _, _, _, rfl, hW1, .inl ⟨rfl, ho, hm⟩, ag, ae, hF⟩ | (exfalso; simp_all; done)
theorem SL {r c cur : Int} {A : Option Addr} {n cp bp B0 : Nat} {cs : List Gs.Cell} {w : World} (ag : Z.h w bp #[Z.i r, Z.i c, .slice A n cp, Z.i cur] 91) (ae : Own B0 w 37 5 (.slice A n cp) (rows Gs.cv cs)) (hW : Gs.Pw r c n cs cur) {ins : Bool} :
    oX 92 #[Z.p bp, .bool ins] w fun e w' => ∃ v, e = .returned v ∧ ∃ (q : Int) (c1 : List Gs.Cell) (cur1 : Int), v = Z.i q ∧ Gs.Pw r c n c1 cur1 ∧ ((q = 0 ∧ Gs.jX cs cur = true ∧ Gs.Mk cs c1 cur) ∨ (q ≠ 0 ∧ c1 = cs ∧ cur1 = cur)) ∧ Z.h w' bp #[Z.i r, Z.i c, .slice A n cp, Z.i cur1] 91 ∧ Own B0 w' 37 5 (.slice A n cp) (rows Gs.cv c1) ∧ aA (fun k => aH (.slice A n cp) k ∨ k = bp) w w' := by
 refine F92.calls ?_
 unfold F92
 obtain ⟨hn, hcw, hcu, hp, hN, hb⟩ := id hW; have hrc := hW.rc
 have hF : aA (fun k => aH (.slice A n cp) k ∨ k = bp) w w := Fr.refl _ _ _
 refine aB (eF ag ae hn) (fun w1 U1 => ?_)
 replace ae := ae.ai U1
 replace ag := U1.af ag
 refine aN (BK ag ae hW (x := 28) (ins := ins) (by decide)) (fun v2 w2 D2 => ?_)
 obtain ⟨e11, c1, cur1, rfl, hW1, hm11, M2, N2, U2⟩ := D2
 replace ae := N2
 replace ag := M2
 replace hF := hF.go0 U1
 replace hF := hF.go U2 (fun i h hs => Or.elim (show aH _ _ ∨ _ = _ from hs) (fun hs => .inl hs) (fun hb => by (subst hb; omega)))
 refine az (kR _ _ _ _ _) (fun h3 => ?_) (fun h3 => ?_)
 refine aJ ?_
 rcases hm11 with ⟨hq, ho, hm⟩ | ⟨hq, hc, hu⟩ <;> first | exact ⟨_, rfl, _, _, _, rfl, hW1, .inr ⟨hq, hc, hu⟩, ag, ae, hF⟩ | (exfalso; simp_all; done)
 refine aC ?_
 have hn1 := hW1.1
 refine aN (qR ag ae hW1.1 (i := cur)) (fun v5 w5 D5 => ?_)
 obtain ⟨rfl, N5, U5⟩ := D5
 replace ae := ae.aF U5 (Own.aS ae (by assumption) (by decide))
 replace ag := N5
 replace hF := hF.go U5 (fun i _ h => .inr h)
 rw [if_pos (by omega)] at ag
 refine aN (DW ag ae (hW1.at hcu)) (fun v6 w6 D6 => ?_)
 obtain ⟨cur2, rfl, hW2, N6, U6⟩ := D6
 replace ae := ae.aF U6 (Own.aS ae (by assumption) (by decide))
 replace ag := N6
 replace hF := hF.go U6 (fun i _ h => .inr h)
 rcases hm11 with ⟨hq, ho, hm⟩ | ⟨hq, hc, hu⟩ <;> first | exact ⟨_, rfl, _, _, _, rfl, hW2, .inl ⟨rfl, ho, hm⟩, ag, ae, hF⟩ | (exfalso; simp_all; done)
theorem QF {r c cur : Int} {A : Option Addr} {n cp bp B0 : Nat} {cs : List Gs.Cell} {w : World} (ag : Z.h w bp #[Z.i r, Z.i c, .slice A n cp, Z.i cur] 91) (ae : Own B0 w 37 5 (.slice A n cp) (rows Gs.cv cs)) (hW : Gs.Pw r c n cs cur) {ins : Bool} :
    oX 93 #[Z.p bp, .bool ins] w fun e w' => ∃ v, e = .returned v ∧ ∃ (q : Int) (c1 : List Gs.Cell) (cur1 : Int), v = Z.i q ∧ Gs.Pw r c n c1 cur1 ∧ ((q = 0 ∧ Gs.jX cs cur = true ∧ Gs.Mk cs c1 cur) ∨ (q ≠ 0 ∧ c1 = cs ∧ cur1 = cur)) ∧ Z.h w' bp #[Z.i r, Z.i c, .slice A n cp, Z.i cur1] 91 ∧ Own B0 w' 37 5 (.slice A n cp) (rows Gs.cv c1) ∧ aA (fun k => aH (.slice A n cp) k ∨ k = bp) w w' := by
 refine F93.calls ?_
 unfold F93
 obtain ⟨hn, hcw, hcu, hp, hN, hb⟩ := id hW; have hrc := hW.rc
 have hF : aA (fun k => aH (.slice A n cp) k ∨ k = bp) w w := Fr.refl _ _ _
 refine aN (BK ag ae hW (x := 30) (ins := ins) (by decide)) (fun v1 w1 D1 => ?_)
 obtain ⟨e7, c1, cur1, rfl, hW1, hm7, M1, N1, U1⟩ := D1
 replace ae := N1
 replace ag := M1
 replace hF := hF.go U1 (fun i h hs => Or.elim (show aH _ _ ∨ _ = _ from hs) (fun hs => .inl hs) (fun hb => by (subst hb; omega)))
 exact ⟨_, rfl, _, _, _, rfl, hW1, hm7, ag, ae, hF⟩
theorem Vs {r c cur : Int} {A : Option Addr} {n cp bp B0 : Nat} {cs : List Gs.Cell} {w : World} (ag : Z.h w bp #[Z.i r, Z.i c, .slice A n cp, Z.i cur] 91) (ae : Own B0 w 37 5 (.slice A n cp) (rows Gs.cv cs)) (hW : Gs.Pw r c n cs cur)  :
    oX 90 #[Z.p bp] w fun e w' => ∃ v, e = .returned v ∧ ∃ (q : Int) (cs : List Gs.Cell) (cur : Int), v = Z.i q ∧ Gs.Pw r c n cs cur ∧ Z.h w' bp #[Z.i r, Z.i c, .slice A n cp, Z.i cur] 91 ∧ Own B0 w' 37 5 (.slice A n cp) (rows Gs.cv cs) ∧ aA (fun k => aH (.slice A n cp) k ∨ k = bp) w w' := by
 refine Wh.calls ?_
 unfold Wh
 obtain ⟨hn, hcw, hcu, hp, hN, hb⟩ := id hW; have hrc := hW.rc
 have xy := au ag
 have l9 := Own.lt ae
 have hF : aA (fun k => aH (.slice A n cp) k ∨ k = bp) w w := Fr.refl _ _ _
 refine Z.x _ (fun b1 w1 e1 ah _ U1 => ?_)
 have kX : bp ≠ b1 := by have := au ag; omega
 have iq := ae.apart e1
 have bZ : w.heap.size ≤ b1 := by have := hF.size; omega
 refine bM (fun g w' => ∃ (cs : List Gs.Cell) (m : Int), (g 3 = Z.i m) ∧ (Z.h w' bp #[Z.i r, Z.i c, .slice A n cp, Z.i cur] 91) ∧ (Own B0 w' 37 5 (.slice A n cp) (rows Gs.cv cs)) ∧ (Gs.Pw r c n cs cur) ∧ (Z.h w' b1 #[Z.p bp] 33) ∧ (aA (fun k => aH (.slice A n cp) k ∨ k = bp) w w')) (fun J1 hJ1 => ?_) (fun gJ1 jT hI => ?_)
 refine Z.l ah ?_
 replace ae := ae.ai U1
 replace ag := U1.af ag
 refine aB (fG ag ae hn) (fun w2 U2 => ?_)
 refine ed (fun g w' => ∃ (k : Nat) (cs : List Gs.Cell) (m : Int), (g 9 = Z.i (k : Int)) ∧ (k ≤ n) ∧ (g 3 = Z.i m) ∧ (Z.h w' bp #[Z.i r, Z.i c, .slice A n cp, Z.i cur] 91) ∧ (Own B0 w' 37 5 (.slice A n cp) (rows Gs.cv cs)) ∧ (Gs.Pw r c n cs cur) ∧ (Z.h w' b1 #[Z.p bp] 33) ∧ (aA (fun k => aH (.slice A n cp) k ∨ k = bp) w w')) (fun g w' => n - (RowKit.intOf (g 9)).toNat) ?_ (fun g2 qK hI => ?_)
 replace hF := (hF.go0 U1).go0 U2
 replace ae := ae.ai U2
 replace ag := U2.af ag
 replace ah := U2.af ah
 exact ⟨0, cs, 0, (by rfl), Nat.zero_le _, (by rfl), ag, ae, hW, ah, hF⟩
 replace hF := (hF.go0 U1).go0 U2
 replace ae := ae.ai U2
 replace ag := U2.af ag
 replace ah := U2.af ah
 obtain ⟨k, cs, m, g9, hk, g3, ag, ae, hW, ah, hF⟩ := hI
 rw [g9]
 rw [g3]
 obtain ⟨hn, hcw, hcu, hp, hN, hb⟩ := id hW
 refine az (lss _ _ _ _) (fun h3 => ?_) (fun h3 => ?_)
 refine aJ ?_
 refine bM (fun g w' => ∃ (cs : List Gs.Cell) (m : Int), (g 3 = Z.i m) ∧ (Z.h w' bp #[Z.i r, Z.i c, .slice A n cp, Z.i cur] 91) ∧ (Own B0 w' 37 5 (.slice A n cp) (rows Gs.cv cs)) ∧ (Gs.Pw r c n cs cur) ∧ (Z.h w' b1 #[Z.p bp] 33) ∧ (aA (fun k => aH (.slice A n cp) k ∨ k = bp) w w')) (fun J3 hJ3 => ?_) (fun gJ3 JO hI => ?_)
 refine Z.l ah ?_
 refine dQ (nJ ag ae hn hN hb hcw (i := (k : Int))) (fun w4 U4 h4 => ?_) (fun w4 U4 h4 => ?_)
 refine aJ ?_
 replace ah := U4.af ah
 refine Z.l ah ?_
 refine ak (bG (l := [(0, 1), (1, 1), (2, 1), (3, 1), (4, 1)]) (z := #[Z.u 0, .bool false, .bool false, Z.u 0, Z.u 0]) (cs := (Gs.cv Gs.zc)) (by kernel_rfl) (by rfl)) ?_
 replace ae := ae.ai U4
 replace ag := U4.af ag
 refine aN (jv ag ae hn (i := (k : Int)) (x := Gs.zc)) (fun v5 w5 D5 => ?_)
 obtain ⟨rfl, N5, U5⟩ := D5
 have aK := ae
 replace ag := U5.get ag (fun h => Own.aS aK ag (by decide) _ h rfl)
 replace ae := N5
 replace ah := U5.get ah (fun h => iq _ h rfl)
 replace hF := hF.go0 U4
 replace hF := hF.go U5 (fun i h hs => .inl hs)
 clear aK
 refine ak (FI _ _ _ _) ?_
 refine hJ3 _ _ ?_
 exact ⟨_, _, (by rfl), ag, ae, (by exact hW.set _ Gs.Ad), ah, hF⟩
 refine aC ?_
 refine hJ3 _ _ ?_
 replace ae := ae.ai U4
 replace ag := U4.af ag
 replace ah := U4.af ah
 replace hF := hF.go0 U4
 exact ⟨_, _, (by exact g3), ag, ae, (by exact hW), ah, hF⟩
 obtain ⟨cs, m, g3, ag, ae, hW, ah, hF⟩ := hI
 obtain ⟨hn, hcw, hcu, hp, hN, hb⟩ := id hW
 refine ak (dK _ (by omega)) ?_
 exact ⟨⟨k + 1, _, _, (by rfl), by omega, (by exact g3), ag, ae, hW, ah, hF⟩, cnt_lt (by rfl) rfl (by omega)⟩
 refine aC ?_
 refine hJ1 _ _ ?_
 exact ⟨_, _, (by exact g3), ag, ae, hW, ah, hF⟩
 replace ae := ae.ai U1
 replace ag := U1.af ag
 replace hF := hF.go0 U1
 obtain ⟨cs, m, g3, ag, ae, hW, ah, hF⟩ := hI
 rw [g3]
 obtain ⟨hn, hcw, hcu, hp, hN, hb⟩ := id hW
 refine bM (fun g w' => ∃ (D5 : Nat) (cs : List Gs.Cell), (g 1000000 = mkV D5 undef) ∧ (w.heap.size ≤ D5) ∧ (w'.heap[D5]? = some (.deferred (some []))) ∧ (Z.h w' bp #[Z.i r, Z.i c, .slice A n cp, Z.i cur] 91) ∧ (Own B0 w' 37 5 (.slice A n cp) (rows Gs.cv cs)) ∧ (Gs.Pw r c n cs cur) ∧ (Z.h w' b1 #[Z.p bp] 33) ∧ (aA (fun k => aH (.slice A n cp) k ∨ k = bp) w w')) (fun J4 hJ4 => ?_) (fun gJ4 wJ4 hI => ?_)
 refine Z.l ah ?_
 refine aN (wF ag ae hn) (fun v6 w6 D6 => ?_)
 obtain ⟨b1_23, rfl, g1_23, dY, U6⟩ := D6
 have Vt : bp ≠ b1_23 := by have := au ag; omega
 have yT : ∀ k, aH _ k → k ≠ b1_23 := fun k hk => by have := (Own.ge ae hk).2; omega
 have Vu : b1 ≠ b1_23 := by have := au ah; omega
 have ac6 : w.heap.size ≤ b1_23 := by have := hF.size; omega
 refine tJ (by kernel_rfl) (fun w7 l5 D5 Rdy5 Bsy5 Dn5 y5 eD el dG dU lp1 lp2 lp3 sz7 U7 hY => ?_)
 have lp2_5 := lp2
 replace ag := U6.af ag
 have SB : bp ≠ D5 := by have := au ag; omega
 have lJ : bp ≠ l5 := by have := au ag; omega
 replace ae := ae.ai U6
 have zq : ∀ k, aH _ k → k ≠ D5 := fun k hk => by have := (Own.ge ae hk).2; omega
 have iR : ∀ k, aH _ k → k ≠ l5 := fun k hk => by have := (Own.ge ae hk).2; omega
 replace ah := U6.af ah
 have Sz : b1 ≠ D5 := by have := au ah; omega
 have mf : b1 ≠ l5 := by have := au ah; omega
 have Vw : b1_23 ≠ D5 := by have := au dY; omega
 have o6 : b1_23 ≠ l5 := by have := au dY; omega
 replace hF := hF.go0 U6
 have xZ : w.heap.size ≤ D5 := by have := hF.size; omega
 have pY : w.heap.size ≤ l5 := by have := hF.size; omega
 have kY : D5 ≠ l5 := by omega
 replace ae := ae.ai U7
 replace ag := U7.af ag
 replace ah := U7.af ah
 replace dY := U7.af dY
 replace hF := hF.go0 U7
 refine Calls.mono (uj (b1 := b1_23) (csF := fun k => Gs.nV cs ((Gs.bU cs).take k)) (J := (fun (k : Nat) (w' : World) => (Z.h w' bp #[Z.i r, Z.i c, .slice A n cp, Z.i cur] 91) ∧ (Own B0 w' 37 5 (.slice A n cp) (rows Gs.cv (Gs.nV cs ((Gs.bU cs).take k)))) ∧ (Z.h w' b1_23 #[Z.p bp] 33) ∧ (Z.h w' b1 #[Z.p bp] 33) ∧ (w'.heap[D5]? = some (.deferred (some []))) ∧ (w'.heap[l5]? = some Rdy5) ∧ (aA (fun k => aH (.slice A n cp) k ∨ k = bp) w w'))) (X := (fun _ => False)) (fun _ w' hJ => by obtain ⟨ag, ae, dY, ah, dG, dU, hF⟩ := hJ; exact ⟨dY, ag, ae⟩) (fun _ w' w'' hJ U' => by obtain ⟨ag, ae, dY, ah, dG, dU, hF⟩ := hJ; exact ⟨U'.af ag, ae.ai U', U'.af dY, U'.af ah, U'.af dG, U'.af dU, hF.go0 U'⟩) (fun _ _ h _ => h.elim) (fun _ => hn.trans (Gs.uB cs _)) (fun _ => Gs.AC hcw _) (fun _ _ => by rw [Gs.Mc, Gs.Mc]) hN hb ?_ ?_) ?_
 intro k wl5 xk hx hI
 obtain ⟨ag, ae, dY, ah, dG, dU, hF⟩ := hI
 have hx : (Gs.bU cs)[k]? = some xk := hx
 have hk := (List.getElem?_eq_some_iff.1 hx).1
 have hxm := Gs.qc.1 (List.mem_of_getElem? hx)
 have hxn := hxm.1
 have hgw := Gs.sG (Gs.AC hcw ((Gs.bU cs).take k)) (xk : Int)
 have hol := Gs.uB cs ((Gs.bU cs).take k)
 refine hY [.agg (Gs.fv (Gs.kC (Gs.nV cs ((Gs.bU cs).take k)) xk)).toArray] _ _ rfl dU ?_
 simp only [List.getD_cons_zero, List.getD_cons_succ]
 refine Z.n ((Gs.fv Gs.zf).toArray) (fun b8 w8 e8 mg _ U8 => ?_)
 have BL : bp ≠ b8 := by have := au ag; omega
 have wG := ae.apart e8
 have wH : b1_23 ≠ b8 := by have := au dY; omega
 have BM : b1 ≠ b8 := by have := au ah; omega
 have BN : D5 ≠ b8 := by have := au dG; omega
 have BO : l5 ≠ b8 := by have := au dU; omega
 have FK : w.heap.size ≤ b8 := by have := hF.size; omega
 refine Z.t 3 ((Gs.fv (Gs.kC (Gs.nV cs ((Gs.bU cs).take k)) xk)).toArray) (by (simp [Value.cells, Value.oneCell', Gs.cv, Gs.fv, Gs.ie]; done)) mg (fun w9 mg _ U9 => ?_)
 replace dU := U9.aj (U8.af dU) BO
 refine wE dU (fun w10 dU _ aY => ?_)
 refine Z.f 2 ?_
 replace mg := aY.aj mg (Ne.symm BO)
 refine Z.l mg ?_
 refine dQ (mP (Gs.SN (Gs.AC hcw _) xk)) (fun nR bK h11 => ?_) (fun nR bK h11 => ?_)
 simp only [Z.d, Z.c] at h11
 refine aJ ?_
 replace dU := bK.af dU
 refine rM dU (fun w12 dU _ di => ?_)
 replace ae := ((((ae.ai U8).aF U9 wG).aF aY iR).ai bK).aF di iR
 replace ag := di.aj (bK.af (aY.aj (U9.aj (U8.af ag) BL) lJ)) lJ
 replace dY := di.aj (bK.af (aY.aj (U9.aj (U8.af dY) wH) o6)) o6
 replace ah := di.aj (bK.af (aY.aj (U9.aj (U8.af ah) BM) mf)) mf
 replace dG := di.aj (bK.af (aY.aj (U9.aj (U8.af dG) BN) kY)) kY
 replace hF := ((((hF.go0 U8).go1 U9 FK).go1 aY pY).go0 bK).go1 di pY
 exact ⟨ag, (by rw [Gs.FM hx]; have hpr := Gs.FN hx; unfold Gs.qI; (rw [if_pos (decide_eq_true (by omega))]; exact ae)), dY, ah, dG, dU, hF⟩
 simp only [Z.d, Z.c] at h11
 refine aC ?_
 replace ah := bK.af (aY.aj (U9.aj (U8.af ah) BM) mf)
 refine Z.l ah ?_
 refine Z.f 0 ?_
 replace mg := bK.af mg
 refine Z.l mg ?_
 replace ae := (((ae.ai U8).aF U9 wG).aF aY iR).ai bK
 replace ag := bK.af (aY.aj (U9.aj (U8.af ag) BL) lJ)
 refine aB (iF ag ae (hn.trans hol) (i := (xk : Int))) (fun vY dI => ?_)
 refine Z.n ((Gs.cv Gs.zc).toArray) (fun b14 sO e14 dJ _ dC => ?_)
 replace ag := dI.af ag
 have qm : bp ≠ b14 := by have := au ag; omega
 replace ae := ae.ai dI
 have nK := ae.apart e14
 replace dY := dI.af (bK.af (aY.aj (U9.aj (U8.af dY) wH) o6))
 have vz : b1_23 ≠ b14 := by have := au dY; omega
 replace ah := dI.af ah
 have qo : b1 ≠ b14 := by have := au ah; omega
 replace dG := dI.af (bK.af (aY.aj (U9.aj (U8.af dG) BN) kY))
 have zL : D5 ≠ b14 := by have := au dG; omega
 replace dU := dI.af (bK.af dU)
 have zM : l5 ≠ b14 := by have := au dU; omega
 replace mg := dI.af mg
 have zN : b8 ≠ b14 := by have := au mg; omega
 replace hF := ((((hF.go0 U8).go1 U9 FK).go1 aY pY).go0 bK).go0 dI
 have pF : w.heap.size ≤ b14 := by have := hF.size; omega
 refine Z.t 5 ((Gs.cv (Gs.bV (Gs.nV cs ((Gs.bU cs).take k)) xk)).toArray) (by (simp [Value.cells, Value.oneCell', Gs.cv, Gs.fv, Gs.ie]; done)) dJ (fun uG dJ _ bW => ?_)
 refine Z.f 0 ?_
 refine Z.l dJ ?_
 refine aB (yf hgw) (fun w16 bQ => ?_)
 refine Z.f 0 ?_
 replace dJ := bQ.af dJ
 refine Z.s dJ (fun uS dJ _ df => ?_)
 replace ah := df.aj (bQ.af (bW.aj (dC.af ah) qo)) qo
 refine Z.l ah ?_
 refine Z.f 0 ?_
 replace mg := df.aj (bQ.af (bW.aj (dC.af mg) zN)) zN
 refine Z.l mg ?_
 refine Z.b 5 _ dJ ?_
 replace ae := (((ae.ai dC).aF bW nK).ai bQ).aF df nK
 replace ag := df.aj (bQ.af (bW.aj (dC.af ag) qm)) qm
 refine aN (jv ag ae (hn.trans hol) (i := (xk : Int)) (x := Gs.yU false (Gs.bV (Gs.nV cs ((Gs.bU cs).take k)) xk))) (fun v18 xx D18 => ?_)
 obtain ⟨rfl, N18, dM⟩ := D18
 have aK := ae
 replace ag := dM.get ag (fun h => Own.aS aK ag (by decide) _ h rfl)
 replace ae := N18
 replace dY := df.aj (bQ.af (bW.aj (dC.af dY) vz)) vz
 replace dY := dM.get dY (fun h => yT _ h rfl)
 replace ah := dM.get ah (fun h => iq _ h rfl)
 replace dG := df.aj (bQ.af (bW.aj (dC.af dG) zL)) zL
 replace dG := dM.get dG (fun h => zq _ h rfl)
 replace dU := df.aj (bQ.af (bW.aj (dC.af dU) zM)) zM
 replace dU := dM.get dU (fun h => iR _ h rfl)
 replace hF := (((hF.go0 dC).go1 bW pF).go0 bQ).go1 df pF
 replace hF := hF.go dM (fun i h hs => .inl hs)
 clear aK
 refine rM dU (fun Ar dU _ fC => ?_)
 replace ae := ae.aF fC iR
 replace ag := fC.aj ag lJ
 replace dY := fC.aj dY o6
 replace ah := fC.aj ah mf
 replace dG := fC.aj dG kY
 replace hF := hF.go1 fC pY
 exact ⟨ag, (by rw [Gs.FM hx]; have hpr := Gs.FN hx; unfold Gs.qI; (rw [if_neg (fun hq => by have := of_decide_eq_true hq; omega)]; exact ae)), dY, ah, dG, dU, hF⟩
 exact ⟨ag, ae, dY, ah, dG, dU, hF⟩
 rintro e wE5 ⟨hv, hI | hI⟩
 obtain ⟨ag, ae, dY, ah, dG, dU, hF⟩ := hI
 refine ⟨hv, .inl ⟨dU, fun xu _ dR => ?_⟩⟩
 refine hJ4 _ _ ?_
 replace ae := ae.aF dR iR
 replace ag := dR.aj ag lJ
 replace ah := dR.aj ah mf
 replace dG := dR.aj dG kY
 replace hF := hF.go1 dR pY
 exact ⟨_, _, (by rfl), xZ, dG, ag, ae, (hW.opn _), ah, hF⟩
 exact hI.elim
 obtain ⟨D5, cs, g1000000, xZ, dG, ag, ae, hW, ah, hF⟩ := hI
 rw [g1000000]
 obtain ⟨hn, hcw, hcu, hp, hN, hb⟩ := id hW
 refine dS (S := no) (fun Dc dV => ?_)
 replace ah := dV.af ah
 refine Z.m ah ?_
 refine Z.m ah ?_
 replace ae := ae.ai dV
 replace ag := dV.af ag
 refine fO (fun w' hw' => by have ag := hw'.af ag; have ae := ae.ai hw'; exact BG ag ae hn hN hb hcw) ?_
 have hhb := Gs.Jk (cs := cs) (by omega)
 refine aI (fun Eu iZ => ?_)
 replace ae := ae.ai iZ
 replace ag := iZ.af ag
 refine aN (qR ag ae hn (i := Gs.rZ cs)) (fun v24 Pm D24 => ?_)
 obtain ⟨rfl, N24, jA⟩ := D24
 replace dG := iZ.af (dV.af dG)
 replace hF := (hF.go0 dV).go0 iZ
 replace ae := ae.aF jA (Own.aS ae (by assumption) (by decide))
 replace dG := jA.aj dG (by omega)
 replace ag := N24
 replace hF := hF.go jA (fun i _ h => .inr h)
 rw [if_pos (by omega)] at ag
 refine aI (fun GV fZ => ?_)
 replace dG := fZ.af dG
 refine leave1 dG (fun Ij _ gm => ?_)
 replace ae := ae.ai fZ
 replace ag := fZ.af ag
 replace hF := hF.go0 fZ
 replace ae := ae.aF gm (Own.kT ae (by assumption))
 replace ag := gm.aj ag (by omega)
 replace hF := hF.go1 gm xZ
 exact ⟨_, rfl, _, _, _, rfl, hW.at (by omega), ag, ae, hF⟩
end Go.Proofs.YtjdoakbadehicaaGreatDoor
end
section
namespace Gs
open Go Go.Sh
structure Pr where
 t : Int
 v : Int
deriving DecidableEq
def pe (x : Pr) : List Value := [.int .u8 x.t, .int .u8 x.v]
theorem AX : Enc pe 2 := ⟨fun _ => rfl, fun a u hu => by
 simp only [pe, List.mem_cons, List.mem_nil_iff, or_false] at hu
 rcases hu with rfl | rfl <;> rfl, by decide⟩
def zpr : Pr := ⟨0, 0⟩
def WL (x : Pr) : Prop := (0 ≤ x.t ∧ x.t ≤ 255) ∧ (0 ≤ x.v ∧ x.v ≤ 255)
structure iM where
 k : Int
 a : Int
 b : Int
 ge : Bool
 pA : Option Addr
 pc : Nat
 ps : List Pr
 dA : Option Addr
 dc : Nat
 ds : List Int
def oe (x : iM) : List Value := [.int .u8 x.k, .int .i64 x.a, .int .u8 x.b, .bool x.ge, .slice x.pA x.ps.length x.pc, .slice x.dA x.ds.length x.dc]
theorem AB : Enc oe 6 := ⟨fun _ => rfl, fun a u hu => by
 simp only [oe, List.mem_cons, List.mem_nil_iff, or_false] at hu
 rcases hu with rfl | rfl | rfl | rfl | rfl | rfl <;> rfl, by decide⟩
def yJ (x : iM) : Prop := (0 ≤ x.k ∧ x.k ≤ 255) ∧ (0 ≤ x.b ∧ x.b ≤ 255) ∧ Bs x.ds ∧ ∀ p ∈ x.ps, WL p
def BF (l : List iM) : Prop := ∀ x ∈ l, yJ x
theorem BF.get {l : List iM} (h : BF l) {k : Nat} {x : iM} (hx : l[k]? = some x) : yJ x := h x (List.mem_of_getElem? hx)
theorem BF.snoc {l : List iM} (h : BF l) {x : iM} (hx : yJ x) : BF (l ++ [x]) := fun y hy => by
 rcases List.mem_append.1 hy with hy | hy
 ·exact h y hy
 ·rw [List.mem_singleton.1 hy]; exact hx
def jU (w : World) (l : List iM) : Prop := ∀ x ∈ l, Rd w x.pA (rows pe x.ps) ∧ Rd w x.dA (vals .u8 x.ds)
def jB (l : List iM) (k : Nat) : Prop := ∃ x ∈ l, (x.ps ≠ [] ∧ eY x.pA k) ∨ (x.ds ≠ [] ∧ eY x.dA k)
def WX (l : List iM) (B : Nat) : Prop := l = [] ∨ ∀ k, jB l k → k < B
theorem WX.ne {l : List iM} {B : Nat} (h : WX l B) {b : Nat} (hb : B ≤ b) : l = [] ∨ ∀ k, jB l k → k ≠ b := h.imp_right fun h k hk => by have := h k hk; omega
theorem WX.mono {l : List iM} {B B' : Nat} (h : WX l B) (hb : B ≤ B') : WX l B' := h.imp_right fun h k hk => by have := h k hk; omega
theorem alm {cs : List Pr} (h : cs ≠ []) : rows pe cs ≠ [] := fun e => by
 have := congrArg List.length e
 rw [iC AX] at this
 cases cs
 ·exact h rfl
 ·simp at this
theorem jU.lt {w : World} {l : List iM} (h : jU w l) : WX l w.heap.size := by
 refine .inr fun k ⟨x, hx, hk⟩ => ?_
 rcases hk with ⟨hne, hk⟩ | ⟨hne, hk⟩
 ·rcases (h x hx).1.lt with h2 | h2
  ·exact absurd h2 (alm hne)
  ·exact h2 k hk
 ·rcases (h x hx).2.lt with h2 | h2
  ·exact absurd (List.map_eq_nil_iff.1 h2) hne
  ·exact h2 k hk
theorem jU.dX {S : Nat → Prop} {w w' : World} {l : List iM} (h : jU w l) (u : aA S w w') (hs : l = [] ∨ ∀ k, jB l k → ¬ S k) : jU w' l := by
 intro x hx
 rcases hs with rfl | hs
 ·cases hx
 ·constructor
  ·refine (h x hx).1.dX u ?_
   by_cases hc : x.ps = []
   ·left; rw [hc]; rfl
   ·right; exact fun k hk => hs k ⟨x, hx, .inl ⟨hc, hk⟩⟩
  ·refine (h x hx).2.dX u ?_
   by_cases hc : x.ds = []
   ·left; rw [hc]; rfl
   ·right; exact fun k hk => hs k ⟨x, hx, .inr ⟨hc, hk⟩⟩
theorem jU.ai {w w' : World} {l : List iM} (h : jU w l) (u : aA no w w') : jU w' l := h.dX u (.inr fun _ _ => id)
theorem jU.aF {w w' : World} {l : List iM} {b : Nat} (h : jU w l) (u : aA (· = b) w w') (hs : l = [] ∨ ∀ k, jB l k → k ≠ b) : jU w' l := h.dX u hs
theorem jU.apart {w : World} {l : List iM} (h : jU w l) {b : Nat} (hb : b = w.heap.size) : l = [] ∨ ∀ k, jB l k → k ≠ b := h.lt.ne (by omega)
theorem jU.get {w : World} {l : List iM} (h : jU w l) {k : Nat} {x : iM} (hx : l[k]? = some x) : jU w [x] := fun y hy => by
 cases List.mem_singleton.1 hy; exact h x (List.mem_of_getElem? hx)
theorem jU.nil (w : World) : jU w [] := fun x hx => by cases hx
theorem jU.one {w : World} {x : iM} (h : Rd w x.pA (rows pe x.ps)) (k : Rd w x.dA (vals .u8 x.ds)) : jU w [x] := fun y hy => by
 cases List.mem_singleton.1 hy; exact ⟨h, k⟩
theorem jU.p {w : World} {x : iM} (h : jU w [x]) : Rd w x.pA (rows pe x.ps) := (h x (List.mem_cons_self ..)).1
theorem jU.d {w : World} {x : iM} (h : jU w [x]) : Rd w x.dA (vals .u8 x.ds) := (h x (List.mem_cons_self ..)).2
theorem jU.snoc {w : World} {l : List iM} {x : iM} (h : jU w l) (hx : jU w [x]) : jU w (l ++ [x]) := fun y hy => by
 rcases List.mem_append.1 hy with hy | hy
 ·exact h y hy
 ·exact hx y hy
theorem Us {l : List iM} {x : iM} {k : Nat} (h : jB (l ++ [x]) k) : jB l k ∨ jB [x] k := by
 obtain ⟨y, hy, h⟩ := h
 rcases List.mem_append.1 hy with hy | hy
 ·exact .inl ⟨y, hy, h⟩
 ·exact .inr ⟨y, hy, h⟩
theorem ahy {l : List iM} {x : iM} {i k : Nat} (hx : l[i]? = some x) (h : jB [x] k) : jB l k := by
 obtain ⟨y, hy, h⟩ := h
 cases List.mem_singleton.1 hy
 exact ⟨x, List.mem_of_getElem? hx, h⟩
theorem ajH {S' : World} {v v' : Value} {l : List iM} (old : l = [] ∨ ∀ k, jB l k → ¬ aH v k) (lt : jU S' l) (hA : ∀ k, aH v' k → aH v k ∨ S'.heap.size ≤ k) : l = [] ∨ ∀ k, jB l k → ¬ aH v' k := by
 rcases old with h | h
 ·exact .inl h
 ·rcases lt.lt with h2 | h2
  ·exact .inl h2
  ·refine .inr fun k hk ho => ?_
   rcases hA k ho with h3 | h3
   ·exact h k hk h3
   ·have := h2 k hk; omega
end Gs
namespace Go.Sh
open Go Gs
def nG (T B : Nat) (w : World) (br : Nat) (bs : List Int) (at' : Nat) : Prop :=
 ∃ A c, w.heap[br]? = some (.cells #[.slice A bs.length c, .int .i64 at'] T (0, 0)) ∧ Rd w A (vals .u8 bs) ∧ bs.length ≤ c ∧ Bs bs ∧ br < B ∧ at' ≤ bs.length ∧ (bs = [] ∨ ∀ k, eY A k → k < B ∧ k ≠ br)
theorem nG.lt {T B : Nat} {w : World} {br at' : Nat} {bs : List Int} (h : nG T B w br bs at') : br < B := by obtain ⟨A, c, _, _, _, _, h, _⟩ := h; exact h
theorem nG.bs {T B : Nat} {w : World} {br at' : Nat} {bs : List Int} (h : nG T B w br bs at') : Bs bs := by obtain ⟨A, c, _, _, _, h, _⟩ := h; exact h
theorem nG.le {T B : Nat} {w : World} {br at' : Nat} {bs : List Int} (h : nG T B w br bs at') : at' ≤ bs.length := by obtain ⟨A, c, _, _, _, _, _, h, _⟩ := h; exact h
theorem nG.upd {T B : Nat} {w : World} {br at' : Nat} {bs : List Int} {S : Nat → Prop} {w' : World} (h : nG T B w br bs at') (u : aA S w w') (hS : ∀ k, k < B → ¬ S k) : nG T B w' br bs at' := by
 obtain ⟨A, c, h1, h2, h3, h4, h5, h6, h7⟩ := h
 refine ⟨A, c, u.get h1 (hS _ h5), h2.dX u ?_, h3, h4, h5, h6, h7⟩
 exact h7.imp (fun e => by rw [e]; rfl) (fun h k hk => hS k (h k hk).1)
theorem nG.ai {T B : Nat} {w : World} {br at' : Nat} {bs : List Int} {w' : World} (h : nG T B w br bs at') (u : aA no w w') : nG T B w' br bs at' := h.upd u (fun _ _ h => h)
end Go.Sh
namespace Go.Sh
open Go Gs
def prA (w : World) (br : Nat) : Nat := match w.heap[br]? with | some (.cells cs _ _) => (match cs.toList with | _ :: Value.int _ x :: _ => x.toNat | _ => 0) | _ => 0
theorem Nq {w : World} {br T at' : Nat} {v : Value} {f : Nat × Nat} (h : w.heap[br]? = some (.cells #[v, .int .i64 (at' : Int)] T f)) : prA w br = at' := by
 unfold prA; rw [h]; simp
end Go.Sh
namespace Gs
open Go Go.Sh
def cO (k a b : Int) (ge : Bool) : iM := ⟨k, a, b, ge, none, 0, [], none, 0, []⟩
theorem I4 {k a b : Int} {ge : Bool} (hk : 0 ≤ k ∧ k ≤ 255) (hb : 0 ≤ b ∧ b ≤ 255) : yJ (cO k a b ge) := ⟨hk, hb, (by intro x h; cases h), (by intro x h; cases h)⟩
def KY (k : Int) (A : Option Addr) (c : Nat) (l : List Pr) : iM := ⟨k, 0, 0, false, A, c, l, none, 0, []⟩
theorem ab7 {k : Int} {A : Option Addr} {c : Nat} {l : List Pr} (hk : 0 ≤ k ∧ k ≤ 255) (h : ∀ p ∈ l, WL p) : yJ (KY k A c l) := ⟨hk, (by show 0 ≤ (0 : Int) ∧ (0 : Int) ≤ 255; decide), (by intro x h; cases h), h⟩
def OW (A : Option Addr) (c : Nat) (l : List Int) : iM := ⟨0, 0, 0, false, none, 0, [], A, c, l⟩
theorem ajx {A : Option Addr} {c : Nat} {l : List Int} (h : Bs l) : yJ (OW A c l) := ⟨(by show 0 ≤ (0 : Int) ∧ (0 : Int) ≤ 255; decide), (by show 0 ≤ (0 : Int) ∧ (0 : Int) ≤ 255; decide), h, (by intro x h; cases h)⟩
end Gs
namespace Go.Sh
open Go
variable {P : Program} {w : World} {T : World → World → Prop} {Q : Value → Prop}
theorem ahk {t n cap : Nat} {A : Option Addr} {xs : List Int} {k k1 k2 : IntKind} {lo hi : Int} (ht : zJ P t = some 1) (hr : Rd w A (vals k xs)) (hl : n = xs.length) (h0 : 0 ≤ lo) (h1 : lo ≤ hi) (h2 : hi ≤ n) (hc : n ≤ cap)
  (h : ∀ A' c', Rd w A' (vals k ((xs.drop lo.toNat).take (hi.toNat - lo.toNat))) → Q (.slice A' (hi.toNat - lo.toNat) c')) :
  bF T w (fun w K => bi ((Instr.sliceAt t (.slice A n cap) (some (.int k1 lo)) (some (.int k2 hi)) none).run P w) aW K) Q := by
 unfold zJ at ht
 split at ht
 ·rename_i e hu
  have hel : P.elem t = e := by simp [Program.elem, hu]
  have hu' : P.underlying t = some (.slice (P.elem t)) := by rw [hel]; exact hu
  refine bJ (v := sliced A lo.toNat hi.toNat cap 1) (fun w' _ => ?_) (h _ _ ?_)
  ·have hr1 := run_slice_lh (P := P) w' t A n cap hu' k1 k2 lo hi h0 h1 (by omega)
   rw [tq (P := P) (w := w') (by rw [hel]; exact ht)] at hr1
   have hr2 := run_sliceAt_slice (P := P) w' t (.slice A n cap) (some (.int k1 lo)) (some (.int k2 hi)) none hu'
   rw [hr1] at hr2
   exact hr2
  subst hl
  by_cases he : cap = lo.toNat
  ·have : lo.toNat = xs.length := by omega
   left
   simp [vals, this]
  ·rw [if_neg he]
   cases A with
   | none =>
    rcases hr with hx | ⟨a, ha, _⟩
    ·have := congrArg List.length hx; rw [vals_length] at this; simp at this; subst this; left; simp [vals]
    ·cases ha
   | some a =>
    have := (hr.drop lo.toNat).take (hi.toNat - lo.toNat)
    rw [Nat.mul_one]
    simpa [vals, List.map_drop, List.map_take] using this
 ·cases ht
end Go.Sh
namespace Go.Sh
open Go Gs
theorem Ut {B e s : Nat} {w : World} {v v' : Value} {xs : List Value} (h : Own B w e s v xs) (q : v' = v) : Own B w e s v' xs := q ▸ h
theorem WY {A : Option Addr} {n c k : Nat} (h : eY A k) : aH (.slice A n c) k := by obtain ⟨a, rfl, rfl⟩ := h; rfl
theorem ahx {S : Nat → Prop} {os : List iM} {x : iM} (h : os = [] ∨ ∀ k, jB os k → ¬ S k) (hP : ∀ k, aH (.slice x.pA x.ps.length x.pc) k → ¬ S k) (hD : ∀ k, aH (.slice x.dA x.ds.length x.dc) k → ¬ S k) :
  os ++ [x] = [] ∨ ∀ k, jB (os ++ [x]) k → ¬ S k := by
 refine .inr fun k hk => ?_
 rcases Us hk with hk | ⟨y, hy, hk⟩
 ·rcases h with rfl | h
  ·obtain ⟨y, hy, _⟩ := hk; cases hy
  ·exact h k hk
 ·cases List.mem_singleton.1 hy
  rcases hk with ⟨_, hk⟩ | ⟨_, hk⟩
  ·exact hP k (WY hk)
  ·exact hD k (WY hk)
theorem ahw {B e1 e2 s1 s2 : Nat} {w : World} {x : iM} {l1 l2 : List Value} (hP : Own B w e1 s1 (.slice x.pA x.ps.length x.pc) l1) (hD : Own B w e2 s2 (.slice x.dA x.ds.length x.dc) l2) {k : Nat} (h : jB [x] k) : B ≤ k := by
 obtain ⟨y, hy, hk⟩ := h
 cases List.mem_singleton.1 hy
 rcases hk with ⟨_, hk⟩ | ⟨_, hk⟩
 ·exact (hP.JH k hk).1
 ·exact (hD.JH k hk).1
end Go.Sh
end
section
namespace Gs
open Go Go.Sh
structure iK where
 k : Int
 a : Int
 b : Int
 ge : Bool
 ps : List Pr
 ds : List Int
deriving DecidableEq
def iM.m (x : iM) : iK := ⟨x.k, x.a, x.b, x.ge, x.ps, x.ds⟩
def vZ (l : List iM) : List iK := l.map iM.m
theorem adZ (l : List iM) (x : iM) : vZ (l ++ [x]) = vZ l ++ [x.m] := by unfold vZ; rw [List.map_append]; rfl
theorem WP (l : List iM) : (vZ l).length = l.length := List.length_map ..
theorem WQ {l : List iM} {k : Nat} {x : iM} (h : l[k]? = some x) : (vZ l)[k]? = some x.m := by unfold vZ; rw [List.getElem?_map, h]; rfl
def sD : List Int → Except Int (Int × List Int)
 | [] => .error 20
 | c :: r => if c < 64 then .error 31 else .ok (c, r)
def nY (k : Int) (x : Pr) : Int :=
 if k = 41 ∨ k = 44 then (if x.t = 65 ∨ x.t = 66 ∨ x.t = 192 then 0 else 33) else
 if k = 40 then (if x.t = 65 ∨ x.t = 66 ∨ (x.t = 0 ∧ x.v = 0) then 0 else 33) else 33
def jE (k : Int) : Nat → List Int → Except Int (List Pr × List Int)
 | 0, l => .ok ([], l)
 | n + 1, l => match l with
  | t :: v :: r => if nY k ⟨t, v⟩ ≠ 0 then .error (nY k ⟨t, v⟩) else (match jE k n r with | .error e => .error e | .ok (ps, r') => .ok (⟨t, v⟩ :: ps, r'))
  | _ => .error 20
def sH (l : List Int) : Except Int ((Int × Int × Bool) × List Int) :=
 match ku l with
 | .error e => .error e
 | .ok (p, r) => match eX r with
  | .error e => .error e
  | .ok (c, r1) => if c = 8 then (match sD r1 with | .error e => .error e | .ok (d, r2) => .ok ((p, d, true), r2)) else if fF c = true then .ok ((p, c, false), r1) else .error 31
def jf : List Int → Except Int (iK × List Int)
 | [] => .error 20
 | c :: r => if fF c = true then .ok (⟨0, 0, 0, false, [], (c :: r).takeWhile fF⟩, (c :: r).dropWhile fF) else
  if c = 17 ∨ c = 18 then (match ku r with | .error e => .error e | .ok (p, r1) => .ok (⟨c, p, 0, false, [], []⟩, r1)) else
  if c = 29 then (match eX r with | .error e => .error e | .ok (y, r1) => .ok (⟨c, 0, y % 64, false, [], []⟩, r1)) else
  if c = 41 ∨ c = 44 then (match eX r with | .error e => .error e | .ok (n, r1) => match jE c n.toNat r1 with | .error e => .error e | .ok (ps, r2) => .ok (⟨c, 0, 0, false, ps, []⟩, r2)) else
  if c = 40 then (match jE c 1 r with | .error e => .error e | .ok (ps, r2) => .ok (⟨c, 0, 0, false, ps, []⟩, r2)) else
  if c = 19 ∨ c = 5 then .ok (⟨c, 0, 0, false, [], []⟩, r) else
  if c = 60 then (match sH r with | .error e => .error e | .ok ((p, d, g), r2) => .ok (⟨c, p, d, g, [], []⟩, r2)) else
  if c = 8 then (match sD r with | .error e => .error e | .ok (d, r1) => .ok (⟨c, 0, d, false, [], []⟩, r1)) else .error 31
theorem P7 {l r : List Int} {c : Int} (h : sD l = .ok (c, r)) : r.length < l.length := by
 unfold sD at h
 split at h
 ·cases h
 ·split at h
  ·cases h
  ·cases h; simp
theorem DK {l r : List Int} {c : Int} (h : eX l = .ok (c, r)) : r.length < l.length := by rw [dL h]; simp
theorem Gu {k : Int} : ∀ {n : Nat} {l r : List Int} {ps : List Pr}, jE k n l = .ok (ps, r) → r.length ≤ l.length
 | 0, l, r, ps, h => by unfold jE at h; cases h; exact Nat.le_refl _
 | n + 1, l, r, ps, h => by
  unfold jE at h
  split at h
  ·split at h
   ·cases h
   ·split at h
    ·cases h
    ·rename_i h2
     cases h
     have := Gu h2
     simp only [List.length_cons]; omega
  ·cases h
theorem ad3 {l r : List Int} {x : Int × Int × Bool} (h : sH l = .ok (x, r)) : r.length < l.length := by
 unfold sH at h
 split at h
 ·cases h
 ·rename_i h1
  have := yw h1
  split at h
  ·cases h
  ·rename_i h2
   have := DK h2
   split at h
   ·split at h
    ·cases h
    ·rename_i h3
     have := P7 h3
     cases h; omega
   ·split at h
    ·cases h; omega
    ·cases h
theorem Hf {p : Int → Bool} : ∀ l : List Int, (l.dropWhile p).length ≤ l.length
 | [] => Nat.le_refl _
 | x :: l => by
  have := Hf (p := p) l
  rw [List.dropWhile_cons]
  split
  ·simp only [List.length_cons]; omega
  ·exact Nat.le_refl _
theorem KZ {l r : List Int} {x : iK} (h : jf l = .ok (x, r)) : r.length < l.length := by
 unfold jf at h
 split at h
 ·cases h
 ·rename_i c r0
  simp only [List.length_cons]
  split at h
  ·rename_i hp
   cases h
   rw [List.dropWhile_cons, if_pos hp]
   have := Hf (p := fF) r0
   omega
  split at h
  ·split at h
   ·cases h
   ·rename_i h1; cases h; have := yw h1; omega
  split at h
  ·split at h
   ·cases h
   ·rename_i h1; cases h; have := DK h1; omega
  split at h
  ·split at h
   ·cases h
   ·rename_i h1
    split at h
    ·cases h
    ·rename_i h2; cases h; have := DK h1; have := Gu h2; omega
  split at h
  ·split at h
   ·cases h
   ·rename_i h2; cases h; have := Gu h2; omega
  split at h
  ·cases h; omega
  split at h
  ·split at h
   ·cases h
   ·rename_i h1; cases h; have := ad3 h1; omega
  split at h
  ·split at h
   ·cases h
   ·rename_i h1; cases h; have := P7 h1; omega
  ·cases h
def iw (l : List Int) : List iK × Int :=
 if l = [] then ([], 0) else
 match h : jf l with
 | .error e => ([], e)
 | .ok (x, r) => (x :: (iw r).1, (iw r).2)
termination_by l.length
decreasing_by all_goals exact KZ h
theorem rH : iw [] = ([], 0) := by unfold iw; rfl
theorem I5 {l : List Int} {e : Int} (hl : l ≠ []) (h : jf l = .error e) : iw l = ([], e) := by
 unfold iw
 rw [if_neg hl]
 split
 ·rename_i h2; rw [h] at h2; cases h2; rfl
 ·rename_i h2; rw [h] at h2; cases h2
theorem zI {l r : List Int} {x : iK} (hl : l ≠ []) (h : jf l = .ok (x, r)) : iw l = (x :: (iw r).1, (iw r).2) := by
 rw [iw, if_neg hl]
 split
 ·rename_i h2; rw [h] at h2; cases h2
 ·rename_i h2; rw [h] at h2; cases h2; rfl
def preO (l : List iK) (x : List iK × Int) : List iK × Int := (l ++ x.1, x.2)
theorem adX (x : List iK × Int) : x = preO [] x := rfl
theorem ab8 {a : List iK × Int} {l : List iK} {cur r : List Int} {x : iK} (h : a = preO l (iw cur)) (hl : cur ≠ []) (hx : jf cur = .ok (x, r)) : a = preO (l ++ [x]) (iw r) := by
 rw [h, zI hl hx]; unfold preO; simp
theorem ad1 {a : List iK × Int} {l : List iK} {cur : List Int} {e : Int} (h : a = preO l (iw cur)) (hl : cur ≠ []) (hx : jf cur = .error e) : a = (l, e) := by
 rw [h, I5 hl hx]; unfold preO; simp
theorem ad2 {a : List iK × Int} {l : List iK} {cur : List Int} (h : a = preO l (iw cur)) (hl : cur = []) : a = (l, 0) := by
 rw [h, hl, rH]; unfold preO; simp
theorem drop_at {bs : List Int} {pa : Nat} {y : Int} (h : bs[pa]? = some y) : bs.drop pa = y :: bs.drop (pa + 1) := by
 obtain ⟨hl, he⟩ := List.getElem?_eq_some_iff.1 h
 rw [List.drop_eq_getElem_cons hl, he]
theorem KX {bs : List Int} {pa : Nat} {y : Int} (h : bs[pa]? = some y) : eX (bs.drop pa) = .ok (y, bs.drop (pa + 1)) := by rw [drop_at h]; rfl
theorem abZ {bs : List Int} {pa : Nat} (h : bs.length ≤ pa) : eX (bs.drop pa) = .error 20 := by rw [List.drop_eq_nil_of_le h]; rfl
theorem ab1 {l r r2 : List Int} {a b : Int} (h : eX l = .ok (a, r)) (h2 : eX r = .ok (b, r2)) : ku l = .ok (uD a b, r2) := by rw [dL h, dL h2]; rfl
theorem ab3 {l : List Int} {e : Int} (h : eX l = .error e) : ku l = .error e := by obtain ⟨rfl, rfl⟩ := qE h; rfl
theorem ab2 {l r : List Int} {a e : Int} (h : eX l = .ok (a, r)) (h2 : eX r = .error e) : ku l = .error e := by obtain ⟨h3, rfl⟩ := qE h2; rw [dL h, h3]; rfl
theorem adQ {l r : List Int} {a : Int} (h : eX l = .ok (a, r)) (h2 : ¬ a < 64) : sD l = .ok (a, r) := by rw [dL h]; unfold sD; dsimp only; rw [if_neg h2]
theorem adR {l : List Int} {e : Int} (h : eX l = .error e) : sD l = .error e := by obtain ⟨rfl, rfl⟩ := qE h; rfl
theorem adP {l r : List Int} {a : Int} (h : eX l = .ok (a, r)) (h2 : a < 64) : sD l = .error 31 := by rw [dL h]; unfold sD; dsimp only; rw [if_pos h2]
def CJ (l : List Pr) (x : Except Int (List Pr × List Int)) : Except Int (List Pr × List Int) := match x with | .error e => .error e | .ok (ps, r) => .ok (l ++ ps, r)
theorem adS (x : Except Int (List Pr × List Int)) : x = CJ [] x := by unfold CJ; split <;> rfl
theorem ab4 {a : Except Int (List Pr × List Int)} {l : List Pr} {k t v : Int} {m n : Nat} {c0 c1 c2 : List Int} (h : a = CJ l (jE k (m - n) c0)) (hn : n < m) (h1 : eX c0 = .ok (t, c1)) (h2 : eX c1 = .ok (v, c2)) (hc : nY k ⟨t, v⟩ = 0) : a = CJ (l ++ [⟨t, v⟩]) (jE k (m - (n + 1)) c2) := by
 rw [h, show m - n = (m - (n + 1)) + 1 by omega, dL h1, dL h2, jE, if_neg (fun h => h hc)]
 unfold CJ
 cases jE k (m - (n + 1)) c2 with
 | error e => rfl
 | ok x => simp
theorem ahg {a : Except Int (List Pr × List Int)} {l : List Pr} {k e : Int} {m n : Nat} {c0 : List Int} (h : a = CJ l (jE k (m - n) c0)) (hn : n < m) (h1 : eX c0 = .error e) : a = .error e := by
 obtain ⟨rfl, rfl⟩ := qE h1
 rw [h, show m - n = (m - (n + 1)) + 1 by omega]; rfl
theorem ahf {a : Except Int (List Pr × List Int)} {l : List Pr} {k t e : Int} {m n : Nat} {c0 c1 : List Int} (h : a = CJ l (jE k (m - n) c0)) (hn : n < m) (h1 : eX c0 = .ok (t, c1)) (h2 : eX c1 = .error e) : a = .error e := by
 obtain ⟨h3, rfl⟩ := qE h2
 rw [h, show m - n = (m - (n + 1)) + 1 by omega, dL h1, h3]; rfl
theorem ahe {a : Except Int (List Pr × List Int)} {l : List Pr} {k t v : Int} {m n : Nat} {c0 c1 c2 : List Int} (h : a = CJ l (jE k (m - n) c0)) (hn : n < m) (h1 : eX c0 = .ok (t, c1)) (h2 : eX c1 = .ok (v, c2)) (hc : ¬ nY k ⟨t, v⟩ = 0) : a = .error (nY k ⟨t, v⟩) := by
 rw [h, show m - n = (m - (n + 1)) + 1 by omega, dL h1, dL h2, jE, if_pos hc]; rfl
theorem adT {a : Except Int (List Pr × List Int)} {l : List Pr} {k : Int} {m : Nat} {c0 : List Int} (h : a = CJ l (jE k (m - m) c0)) : a = .ok (l, c0) := by
 rw [h, Nat.sub_self]; unfold jE CJ; simp
theorem ahj {l : List Int} {e : Int} (h : ku l = .error e) : sH l = .error e := by unfold sH; rw [h]
theorem ahi {l r : List Int} {p e : Int} (h : ku l = .ok (p, r)) (h2 : eX r = .error e) : sH l = .error e := by unfold sH; rw [h]; dsimp only; rw [h2]
theorem ab5 {l r r1 : List Int} {p c : Int} (h : ku l = .ok (p, r)) (h2 : eX r = .ok (c, r1)) (hc : c = 8) : sH l = match sD r1 with | .error e => .error e | .ok (d, r2) => .ok ((p, d, true), r2) := by unfold sH; rw [h]; dsimp only; rw [h2]; dsimp only; rw [if_pos hc]
theorem ajv {l r r1 : List Int} {p c : Int} (h : ku l = .ok (p, r)) (h2 : eX r = .ok (c, r1)) (hc : ¬ c = 8) (hp : fF c = true) : sH l = .ok ((p, c, false), r1) := by unfold sH; rw [h]; dsimp only; rw [h2]; dsimp only; rw [if_neg hc, if_pos hp]
theorem ahh {l r r1 : List Int} {p c : Int} (h : ku l = .ok (p, r)) (h2 : eX r = .ok (c, r1)) (hc : ¬ c = 8) (hp : fF c = false) : sH l = .error 31 := by unfold sH; rw [h]; dsimp only; rw [h2]; dsimp only; rw [if_neg hc, if_neg (by rw [hp]; decide)]
theorem aah {bs : List Int} {p0 p1 : Nat} (h : p0 ≤ p1) (hp : p1 ≤ bs.length) (hall : ∀ (j : Nat) x, p0 ≤ j → j < p1 → bs[j]? = some x → fF x = true) (hend : ∀ x, bs[p1]? = some x → fF x = false) :
  (bs.drop p0).takeWhile fF = (bs.drop p0).take (p1 - p0) ∧ (bs.drop p0).dropWhile fF = bs.drop p1 := by
 have hn : ∃ n, p1 = p0 + n := ⟨p1 - p0, by omega⟩
 obtain ⟨n, rfl⟩ := hn
 clear h
 induction n generalizing p0 with
 | zero =>
  rw [show p0 + 0 - p0 = 0 by omega, List.take_zero, Nat.add_zero]
  cases hb : bs[p0]? with
  | none => rw [List.drop_eq_nil_of_le (List.getElem?_eq_none_iff.1 hb)]; exact ⟨rfl, rfl⟩
  | some x =>
   have := hend x hb
   rw [drop_at hb, List.takeWhile_cons, List.dropWhile_cons, this]; exact ⟨rfl, rfl⟩
 | succ n ih =>
  have hlt : p0 < bs.length := by omega
  have hb := List.getElem?_eq_getElem hlt
  have hpl := hall p0 _ (Nat.le_refl _) (by omega) hb
  have := ih (p0 := p0 + 1) (by omega) (fun j x h1 h2 => hall j x (by omega) (by omega)) (fun x hx => hend x (by rw [show p0 + (n + 1) = p0 + 1 + n by omega]; exact hx))
  rw [drop_at hb, List.takeWhile_cons, List.dropWhile_cons, hpl, if_pos rfl, if_pos rfl, this.1, this.2, show p0 + (n + 1) - p0 = (p0 + 1 + n - (p0 + 1)) + 1 by omega, List.take_succ_cons, show p0 + (n + 1) = p0 + 1 + n by omega]
  exact ⟨rfl, rfl⟩
theorem ajw {bs : List Int} {p0 p1 : Nat} {y : Int} (hy : bs[p0]? = some y) (hp : fF y = true) (h : p0 ≤ p1) (hl : p1 ≤ bs.length) (hall : ∀ (j : Nat) x, p0 ≤ j → j < p1 → bs[j]? = some x → fF x = true) (hend : ∀ x, bs[p1]? = some x → fF x = false) :
  jf (bs.drop p0) = .ok (⟨0, 0, 0, false, [], (bs.drop p0).take (p1 - p0)⟩, bs.drop p1) := by
 obtain ⟨h1, h2⟩ := aah h hl hall hend
 rw [← h1, ← h2, drop_at hy, jf, if_pos hp]
section
variable {l r r1 r2 : List Int} {c : Int}
theorem ajy {p : Int} (h : eX l = .ok (c, r)) (hp : fF c = false) (hc : c = 17 ∨ c = 18) (h1 : ku r = .ok (p, r1)) : jf l = .ok (⟨c, p, 0, false, [], []⟩, r1) := by
 rw [dL h, jf, if_neg (by rw [hp]; decide), if_pos hc, h1]
theorem ahl {e : Int} (h : eX l = .ok (c, r)) (hp : fF c = false) (hc : c = 17 ∨ c = 18) (h1 : ku r = .error e) : jf l = .error e := by
 rw [dL h, jf, if_neg (by rw [hp]; decide), if_pos hc, h1]
theorem ajz {y : Int} (h : eX l = .ok (c, r)) (hp : fF c = false) (hc : c = 29) (h1 : eX r = .ok (y, r1)) : jf l = .ok (⟨c, 0, y % 64, false, [], []⟩, r1) := by
 rw [dL h, jf, if_neg (by rw [hp]; decide), if_neg (by omega), if_pos hc, h1]
theorem ahm {e : Int} (h : eX l = .ok (c, r)) (hp : fF c = false) (hc : c = 29) (h1 : eX r = .error e) : jf l = .error e := by
 rw [dL h, jf, if_neg (by rw [hp]; decide), if_neg (by omega), if_pos hc, h1]
theorem ajA {n : Int} {ps : List Pr} (h : eX l = .ok (c, r)) (hp : fF c = false) (hc : c = 41 ∨ c = 44) (h1 : eX r = .ok (n, r1)) (h2 : jE c n.toNat r1 = .ok (ps, r2)) : jf l = .ok (⟨c, 0, 0, false, ps, []⟩, r2) := by
 rw [dL h, jf, if_neg (by rw [hp]; decide), if_neg (by omega), if_neg (by omega), if_pos hc, h1]; dsimp only; rw [h2]
theorem adW {e : Int} (h : eX l = .ok (c, r)) (hp : fF c = false) (hc : c = 41 ∨ c = 44) (h1 : eX r = .error e) : jf l = .error e := by
 rw [dL h, jf, if_neg (by rw [hp]; decide), if_neg (by omega), if_neg (by omega), if_pos hc, h1]
theorem adV {n e : Int} (h : eX l = .ok (c, r)) (hp : fF c = false) (hc : c = 41 ∨ c = 44) (h1 : eX r = .ok (n, r1)) (h2 : jE c n.toNat r1 = .error e) : jf l = .error e := by
 rw [dL h, jf, if_neg (by rw [hp]; decide), if_neg (by omega), if_neg (by omega), if_pos hc, h1]; dsimp only; rw [h2]
theorem ajB {ps : List Pr} (h : eX l = .ok (c, r)) (hp : fF c = false) (hc : c = 40) (h2 : jE c 1 r = .ok (ps, r2)) : jf l = .ok (⟨c, 0, 0, false, ps, []⟩, r2) := by
 rw [dL h, jf, if_neg (by rw [hp]; decide), if_neg (by omega), if_neg (by omega), if_neg (by omega), if_pos hc, h2]
theorem ahn {e : Int} (h : eX l = .ok (c, r)) (hp : fF c = false) (hc : c = 40) (h2 : jE c 1 r = .error e) : jf l = .error e := by
 rw [dL h, jf, if_neg (by rw [hp]; decide), if_neg (by omega), if_neg (by omega), if_neg (by omega), if_pos hc, h2]
theorem ajC (h : eX l = .ok (c, r)) (hp : fF c = false) (hc : c = 19 ∨ c = 5) : jf l = .ok (⟨c, 0, 0, false, [], []⟩, r) := by
 rw [dL h, jf, if_neg (by rw [hp]; decide), if_neg (by omega), if_neg (by omega), if_neg (by omega), if_neg (by omega), if_pos hc]
theorem ajD {p d : Int} {g : Bool} (h : eX l = .ok (c, r)) (hp : fF c = false) (hc : c = 60) (h1 : sH r = .ok ((p, d, g), r1)) : jf l = .ok (⟨c, p, d, g, [], []⟩, r1) := by
 rw [dL h, jf, if_neg (by rw [hp]; decide), if_neg (by omega), if_neg (by omega), if_neg (by omega), if_neg (by omega), if_neg (by omega), if_pos hc, h1]
theorem aho {e : Int} (h : eX l = .ok (c, r)) (hp : fF c = false) (hc : c = 60) (h1 : sH r = .error e) : jf l = .error e := by
 rw [dL h, jf, if_neg (by rw [hp]; decide), if_neg (by omega), if_neg (by omega), if_neg (by omega), if_neg (by omega), if_neg (by omega), if_pos hc, h1]
theorem ajE {d : Int} (h : eX l = .ok (c, r)) (hp : fF c = false) (hc : c = 8) (h1 : sD r = .ok (d, r1)) : jf l = .ok (⟨c, 0, d, false, [], []⟩, r1) := by
 rw [dL h, jf, if_neg (by rw [hp]; decide), if_neg (by omega), if_neg (by omega), if_neg (by omega), if_neg (by omega), if_neg (by omega), if_neg (by omega), if_pos hc, h1]
theorem ahp {e : Int} (h : eX l = .ok (c, r)) (hp : fF c = false) (hc : c = 8) (h1 : sD r = .error e) : jf l = .error e := by
 rw [dL h, jf, if_neg (by rw [hp]; decide), if_neg (by omega), if_neg (by omega), if_neg (by omega), if_neg (by omega), if_neg (by omega), if_neg (by omega), if_pos hc, h1]
theorem ahq (h : eX l = .ok (c, r)) (hp : fF c = false) (hc : ¬ (c = 17 ∨ c = 18 ∨ c = 29 ∨ c = 41 ∨ c = 44 ∨ c = 40 ∨ c = 19 ∨ c = 5 ∨ c = 60 ∨ c = 8)) : jf l = .error 31 := by
 rw [dL h, jf, if_neg (by rw [hp]; decide), if_neg (by omega), if_neg (by omega), if_neg (by omega), if_neg (by omega), if_neg (by omega), if_neg (by omega), if_neg (by omega)]
end
end Gs
end
