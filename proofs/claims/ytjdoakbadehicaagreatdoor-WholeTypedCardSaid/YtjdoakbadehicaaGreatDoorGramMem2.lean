/-
  What stands in new blocks; plain facts about items that are compared and written. No condition but the ones that each states.
-/
import Derived.Test.YtjdoakbadehicaaGreatDoorGramMem
import Derived.Test.YtjdoakbadehicaaGreatDoorGramBase
import Derived.Test.YtjdoakbadehicaaGreatDoorGramLaws
set_option linter.unusedVariables false
namespace Go.Sh
open Go
theorem GeA.mono {A : Option Addr} {xs : List Value} {B B' : Nat} (h : GeA A xs B') (hb : B ≤ B') : GeA A xs B := h.imp_right fun h k hk => by have := h k hk; omega
end Go.Sh
namespace Gs
open Go Go.Sh
def GeC (l : List It) (B : Nat) : Prop := l = [] ∨ ∀ k, clB l k → B ≤ k
theorem GeC.ne {l : List It} {B b : Nat} (h : GeC l B) (hb : b < B) : l = [] ∨ ∀ k, clB l k → k ≠ b := h.imp_right fun h k hk => by have := h k hk; omega
theorem GeC.mono {l : List It} {B B' : Nat} (h : GeC l B') (hb : B ≤ B') : GeC l B := h.imp_right fun h k hk => by have := h k hk; omega
def fewB (l : List It) : Bool := decide (l.length ≤ 20 ∧ ∀ x ∈ l, x.cs.length ≤ 60)
theorem few_step {l : List It} {k : Nat} {x : It} (h : ∀ y ∈ l.take k, y.cs.length ≤ 60) (hx : l[k]? = some x) (hc : x.cs.length ≤ 60) : ∀ y ∈ l.take (k + 1), y.cs.length ≤ 60 := by
  rw [List.take_add_one, hx]
  intro y hy
  rcases List.mem_append.1 hy with hy | hy
  · exact h y hy
  · simp at hy; subst hy; exact hc
theorem few_all {l : List It} {k : Nat} (h : ∀ y ∈ l.take k, y.cs.length ≤ 60) (hk : l.length ≤ k) : ∀ y ∈ l, y.cs.length ≤ 60 := by rw [List.take_of_length_le hk] at h; exact h
theorem few_dec {l : List It} (h : ∀ y ∈ l, y.cs.length ≤ 60) : decide ((l.length : Int) ≤ 20) = fewB l := by
  unfold fewB; apply decide_eq_decide.2; constructor
  · intro h1; exact ⟨by omega, h⟩
  · intro h1; omega
theorem few_no {l : List It} {k : Nat} {x : It} (hx : l[k]? = some x) (hc : ¬ x.cs.length ≤ 60) : false = fewB l := by
  unfold fewB; symm; apply decide_eq_false; rintro ⟨_, h⟩; exact hc (h x (List.mem_of_getElem? hx))
end Gs
namespace Go.Sh
open Go
variable {P : Program} {R : Ending → World → Prop} {K : Value → World → Prop} {w : World}
theorem callY_of {g : FuncId} {args : Array Value} (hb : ((P.funcs[g]?).any fun fn => fn.body.isSome && !(fn.name == "runtime.NumGoroutine")) = true) (h : callF P g args w R K) : callY P (.func (.func g) #[] #[]) args w R K := by
  refine ⟨hb, ?_⟩
  have e : #[] ++ args ++ #[] = args := by simp
  rw [e]; exact h
end Go.Sh
namespace Gs
open Go Go.Sh
theorem cs_same {xs ys : List Cell} {k : Nat} {x y : Cell} (h : xs.take k = ys.take k) (hx : xs[k]? = some x) (hy : ys[k]? = some y) (he : x = y) : xs.take (k + 1) = ys.take (k + 1) := by
  rw [List.take_add_one, List.take_add_one, h, hx, hy, he]
theorem its_step {l m : List It} {k : Nat} {x y : It} (h : its (l.take k) = its (m.take k)) (hx : l[k]? = some x) (hy : m[k]? = some y) (h1 : x.at' = y.at' ∧ x.cs = y.cs) : its (l.take (k + 1)) = its (m.take (k + 1)) := by
  rw [List.take_add_one, List.take_add_one, hx, hy]
  simp only [its, List.map_append, Option.toList] at h ⊢
  rw [h]; simp [h1.1, h1.2]
theorem its_all {l m : List It} {k : Nat} (h : its (l.take k) = its (m.take k)) (hl : l.length ≤ k) (hm : m.length ≤ k) : its l = its m := by rwa [List.take_of_length_le hl, List.take_of_length_le hm] at h
theorem its_get {l m : List It} {k : Nat} {x y : It} (h : its l = its m) (hx : l[k]? = some x) (hy : m[k]? = some y) : x.at' = y.at' ∧ x.cs = y.cs := by
  have h2 := congrArg (fun z => z[k]?) h
  simp [its, hx, hy] at h2; exact h2
theorem its_lenE {l m : List It} (h : its l = its m) : l.length = m.length := by have := congrArg List.length h; simpa [its] using this
end Gs
namespace Gs
open Go Go.Sh
def okL (r : Except Int (List Int)) : List Int := match r with | .ok l => l | .error _ => []
def pfxW (p : List Int) : Except Int (List Int) → Except Int (List Int)
  | .error e => .error e
  | .ok l => .ok (p ++ l)
theorem cellW_eq (c : Cell) : cellW c = (if c.ge = true then [8] else []) ++ [c.b] := by unfold cellW; split <;> rfl
theorem cellW_len (c : Cell) : (cellW c).length ≤ 2 := by unfold cellW; split <;> simp
def andW (r t : Except Int (List Int)) : Except Int (List Int) := match r with | .error e => .error e | .ok k => pfxW k t
theorem andW_assoc (a b c : Except Int (List Int)) : andW (andW a b) c = andW a (andW b c) := by
  cases a with
  | error e => rfl
  | ok k => cases b with
    | error e => rfl
    | ok l => cases c <;> simp [andW, pfxW]
theorem andW_nil (c : Except Int (List Int)) : andW (.ok []) c = c := by cases c <;> rfl
theorem cellsW_cons (c : Cell) (cs : List Cell) : cellsW (c :: cs) = if mayB c = true then andW (.ok (cellW c)) (cellsW cs) else .error 21 := by
  conv => lhs; unfold cellsW
  split
  · cases cellsW cs <;> rfl
  · rfl
theorem cellsW_app : ∀ (a b : List Cell), cellsW (a ++ b) = andW (cellsW a) (cellsW b)
  | [], b => (andW_nil _).symm
  | c :: a, b => by
    rw [List.cons_append, cellsW_cons, cellsW_cons, cellsW_app a b]
    split
    · rw [andW_assoc]
    · rfl
theorem itemsW_cons (n : Int) (f : Bool) (x : Int × List Cell) (xs : List (Int × List Cell)) : itemsW n f (x :: xs) = andW (itemW x f n) (itemsW n false xs) := by
  conv => lhs; unfold itemsW
  cases itemW x f n with
  | error e => rfl
  | ok l => cases itemsW n false xs <;> rfl
theorem cellsW_step {xs : List Cell} {k : Nat} {x : Cell} {acc : List Int} (h : cellsW (xs.take k) = .ok acc) (hx : xs[k]? = some x) (hm : mayB x = true) : cellsW (xs.take (k + 1)) = .ok (acc ++ cellW x) := by
  rw [List.take_add_one, hx, cellsW_app, h]
  show andW (.ok acc) (cellsW [x]) = _
  rw [cellsW_cons, if_pos hm]; simp [cellsW, pfxW, andW]
theorem cellsW_21 {xs : List Cell} {k : Nat} {x : Cell} {acc : List Int} (h : cellsW (xs.take k) = .ok acc) (hx : xs[k]? = some x) (hm : mayB x = false) : cellsW xs = .error 21 := by
  have h1 : xs = xs.take k ++ x :: xs.drop (k + 1) := by
    have hk : k < xs.length := (List.getElem?_eq_some_iff.1 hx).1
    have e : x = xs[k] := (List.getElem?_eq_some_iff.1 hx).2.symm
    rw [e, ← List.drop_eq_getElem_cons hk, List.take_append_drop]
  rw [h1, cellsW_app, h]
  show andW (.ok acc) (cellsW (x :: _)) = _
  rw [cellsW_cons, if_neg (by rw [hm]; decide)]; rfl
theorem cellsW_end {xs : List Cell} {k : Nat} {acc : List Int} (h : cellsW (xs.take k) = .ok acc) (hk : xs.length ≤ k) : cellsW xs = .ok acc := by rwa [List.take_of_length_le hk] at h
theorem itemW_32 {p n : Int} {xs : List Cell} {f : Bool} (h : p ≠ -1 ∨ f = false) (he : encodeM p n = none) : itemW (p, xs) f n = .error 32 := by unfold itemW; rw [if_pos h, he]
theorem itemW_p {p n a b : Int} {xs : List Cell} {f : Bool} (h : p ≠ -1 ∨ f = false) (he : encodeM p n = some (a, b)) : itemW (p, xs) f n = pfxW [17, a, b] (cellsW xs) := by
  unfold itemW; rw [if_pos h, he]; dsimp only; cases cellsW xs <;> rfl
theorem itemW_n {p n : Int} {xs : List Cell} {f : Bool} (h : p = -1) (hf : f = true) : itemW (p, xs) f n = pfxW [] (cellsW xs) := by
  unfold itemW; rw [if_neg (by simp [h, hf])]; cases cellsW xs <;> rfl
theorem cellsW_err : ∀ {xs : List Cell} {e : Int}, cellsW xs = .error e → e = 21
  | [], e, h => by cases h
  | c :: xs, e, h => by
    unfold cellsW at h
    split at h
    · split at h
      · rename_i e2 h2; cases h; exact cellsW_err h2
      · cases h
    · cases h; rfl
theorem itemW_err {x : Int × List Cell} {f : Bool} {n e : Int} (h : itemW x f n = .error e) : e ≠ 0 := by
  unfold itemW at h
  split at h
  · split at h
    · cases h; decide
    · split at h
      · rename_i h2; cases h; rw [cellsW_err h2]; decide
      · cases h
  · rw [cellsW_err h]; decide
theorem item_ok {x : Int × List Cell} {f : Bool} {n : Int} (h : errV (itemW x f n) = 0) : itemW x f n = .ok (okL (itemW x f n)) := by
  cases hr : itemW x f n with
  | ok l => rfl
  | error e => rw [hr] at h; exact absurd h (itemW_err hr)
theorem item_er {x : Int × List Cell} {f : Bool} {n : Int} (h : errV (itemW x f n) ≠ 0) : itemW x f n = .error (errV (itemW x f n)) := by
  cases hr : itemW x f n with
  | ok l => rw [hr] at h; exact absurd rfl h
  | error e => rfl
theorem cellsW_len : ∀ {xs : List Cell} {l : List Int}, cellsW xs = .ok l → l.length ≤ 2 * xs.length
  | [], l, h => by cases h; simp
  | c :: xs, l, h => by
    unfold cellsW at h
    split at h
    · split at h
      · cases h
      · rename_i k hk
        cases h
        have h1 := cellsW_len hk
        have h2 := cellW_len c
        simp only [List.length_append, List.length_cons]; omega
    · cases h
theorem itemW_len {x : Int × List Cell} {f : Bool} {n : Int} : (okL (itemW x f n)).length ≤ 2 * x.2.length + 3 := by
  cases hr : itemW x f n with
  | error e => simp [okL]
  | ok l =>
    show l.length ≤ _
    unfold itemW at hr
    split at hr
    · split at hr
      · cases hr
      · split at hr
        · cases hr
        · rename_i h2; cases hr; have := cellsW_len h2; simp only [List.length_cons]; omega
    · have := cellsW_len hr; omega
theorem itemsW_app (n : Int) : ∀ (hs : List (Int × List Cell)) (f : Bool) (ts : List (Int × List Cell)), itemsW n f (hs ++ ts) = andW (itemsW n f hs) (itemsW n (f && hs.isEmpty) ts)
  | [], f, ts => by
    rw [show (f && ([] : List (Int × List Cell)).isEmpty) = f by simp]; exact (andW_nil _).symm
  | x :: hs, f, ts => by
    rw [List.cons_append, itemsW_cons, itemsW_cons, itemsW_app n hs false ts, andW_assoc]
    simp
theorem its_take {l : List It} {k : Nat} {x : It} (hx : l[k]? = some x) : its l = its (l.take k) ++ (x.at', x.cs) :: its (l.drop (k + 1)) := by
  have hk : k < l.length := (List.getElem?_eq_some_iff.1 hx).1
  have e : x = l[k] := (List.getElem?_eq_some_iff.1 hx).2.symm
  have h1 : l = l.take k ++ x :: l.drop (k + 1) := by rw [e, ← List.drop_eq_getElem_cons hk, List.take_append_drop]
  conv => lhs; rw [h1]
  simp [its]
theorem its_empty {l : List It} {k : Nat} {x : It} (hx : l[k]? = some x) : (its (l.take k)).isEmpty = decide ((k : Int) = 0) := by
  have hk : k < l.length := (List.getElem?_eq_some_iff.1 hx).1
  cases k with
  | zero => rfl
  | succ k =>
    cases l with
    | nil => simp at hk
    | cons a l => simp [its]; omega
theorem items_step {tot : Int} {l : List It} {k : Nat} {x : It} {acc m : List Int} (h : itemsW tot true (its (l.take k)) = .ok acc) (hx : l[k]? = some x) (hm : itemW (x.at', x.cs) (decide ((k : Int) = 0)) tot = .ok m) : itemsW tot true (its (l.take (k + 1))) = .ok (acc ++ m) := by
  have e : its (l.take (k + 1)) = its (l.take k) ++ [(x.at', x.cs)] := by rw [List.take_add_one, hx]; simp [its]
  rw [e, itemsW_app, h, Bool.true_and, its_empty hx, itemsW_cons]
  show andW (.ok acc) (andW (itemW (x.at', x.cs) (decide ((k : Int) = 0)) tot) _) = _
  rw [hm]; simp [itemsW, andW, pfxW]
theorem items_er {tot : Int} {l : List It} {k : Nat} {x : It} {acc : List Int} {e : Int} (h : itemsW tot true (its (l.take k)) = .ok acc) (hx : l[k]? = some x) (hm : itemW (x.at', x.cs) (decide ((k : Int) = 0)) tot = .error e) : itemsW tot true (its l) = .error e := by
  rw [its_take hx, itemsW_app, h, Bool.true_and, its_empty hx, itemsW_cons]
  show andW (.ok acc) (andW (itemW (x.at', x.cs) (decide ((k : Int) = 0)) tot) _) = _
  rw [hm]; rfl
theorem items_end {tot : Int} {l : List It} {k : Nat} {acc : List Int} (h : itemsW tot true (its (l.take k)) = .ok acc) (hk : l.length ≤ k) : itemsW tot true (its l) = .ok acc := by rwa [List.take_of_length_le hk] at h
theorem write_al {i : Inb} {n : Int} (h : i.alone = true) : writeM i n = .ok [i.aid] := by unfold writeM; rw [if_pos h]
theorem write_32 {i : Inb} {n : Int} (h : i.alone = false) (he : encodeM i.cur n = none) : writeM i n = .error 32 := by unfold writeM; rw [if_neg (by rw [h]; decide), he]
theorem write_er {i : Inb} {n a b e : Int} (h : i.alone = false) (he : encodeM i.cur n = some (a, b)) (hi : itemsW n true i.items = .error e) : writeM i n = .error e := by unfold writeM; rw [if_neg (by rw [h]; decide), he]; dsimp only; rw [hi]
theorem write_ok {i : Inb} {n a b : Int} {l : List Int} (h : i.alone = false) (he : encodeM i.cur n = some (a, b)) (hi : itemsW n true i.items = .ok l) : writeM i n = .ok (i.aid :: a :: b :: l) := by unfold writeM; rw [if_neg (by rw [h]; decide), he]; dsimp only; rw [hi]
end Gs
namespace Gs
open Go Go.Sh
theorem own_cellW {B : Nat} {w : World} {e : Nat} {v : Value} {pre acc : List Int} {x : Cell} (h : Own B w e 1 v (vals .u8 (pre ++ acc ++ (if x.ge = true then [8] else [])) ++ [.int .u8 x.b])) : Own B w e 1 v (vals .u8 (pre ++ (acc ++ cellW x))) := by
  rw [cellW_eq]; simpa only [← List.append_assoc] using own_snoc h
theorem own_app {B : Nat} {w : World} {e : Nat} {v : Value} {acc m : List Int} (h : Own B w e 1 v (vals .u8 acc ++ vals .u8 m)) : Own B w e 1 v (vals .u8 (acc ++ m)) := by
  simpa [vals] using h
end Gs
