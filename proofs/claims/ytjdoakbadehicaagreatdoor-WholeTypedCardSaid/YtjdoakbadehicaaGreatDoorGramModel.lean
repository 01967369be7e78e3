/-
  Layer 25 in plain Lean: what bytes mean, what is written. No program, no condition.
-/
import Derived.Test.YtjdoakbadehicaaGreatDoorPlaneModel
namespace Gs
open Go
/-- What is sent. -/
structure Inb where
  aid : Int
  alone : Bool
  cur : Int
  items : List (Int × List Cell)
deriving DecidableEq
def plainB (b : Int) : Bool := decide (64 ≤ b) || decide (b = 0 ∨ b = 12 ∨ b = 13 ∨ b = 21 ∨ b = 25 ∨ b = 28 ∨ b = 30 ∨ b = 63)
def decodeM (a b : Int) : Int := if a < 64 then 256 * a + b else 64 * (a % 64) + b % 64
def cellF : List Int → Except Int (Cell × List Int)
  | [] => .error 20
  | c :: r => if plainB c = true then .ok (⟨c, false, false, 0, 0⟩, r) else if c ≠ 8 then .error 21 else
    match r with
    | [] => .error 20
    | d :: r' => if d < 64 then .error 21 else .ok (⟨d, true, false, 0, 0⟩, r')
theorem cellF_len {l : List Int} {x : Cell} {r : List Int} (h : cellF l = .ok (x, r)) : r.length < l.length := by
  unfold cellF at h
  split at h
  · cases h
  · split at h
    · cases h; simp
    · split at h
      · cases h
      · split at h
        · cases h
        · split at h
          · cases h
          · cases h; simp; omega
/-- Cells up to the next place. -/
def cellsF (l : List Int) : Except Int (List Cell × List Int) :=
  if l.head? = none ∨ l.head? = some 17 then .ok ([], l) else
  match h : cellF l with
  | .error e => .error e
  | .ok (x, r) => match cellsF r with | .error e => .error e | .ok (xs, r') => .ok (x :: xs, r')
termination_by l.length
decreasing_by exact cellF_len h
theorem cellsF_len : ∀ {l : List Int} {xs : List Cell} {r : List Int}, cellsF l = .ok (xs, r) → r.length ≤ l.length ∧ (r.head? = none ∨ r.head? = some 17) ∧ (xs = [] → r = l) ∧ (xs ≠ [] → r.length < l.length)
  | l, xs, r, h => by
    unfold cellsF at h
    split at h
    · rename_i hh; cases h; exact ⟨Nat.le_refl _, hh, fun _ => rfl, fun h => absurd rfl h⟩
    · split at h
      · cases h
      · rename_i x r1 h1
        split at h
        · cases h
        · rename_i xs2 r2 h2
          cases h
          have hl := cellF_len h1
          have := cellsF_len h2
          exact ⟨by omega, this.2.1, (fun h => by cases h), fun _ => by omega⟩
termination_by l => l.length
decreasing_by assumption
def placeF : List Int → Except Int (Int × List Int)
  | a :: b :: r => .ok (decodeM a b, r)
  | _ => .error 20
def itemF (l : List Int) : Except Int ((Int × List Cell) × List Int) :=
  if l.head? = some 17 then
    match placeF l.tail with
    | .error e => .error e
    | .ok (p, r) => match cellsF r with | .error e => .error e | .ok (xs, r') => .ok ((p, xs), r')
  else match cellsF l with | .error e => .error e | .ok (xs, r') => .ok ((-1, xs), r')
theorem placeF_len {l : List Int} {p : Int} {r : List Int} (h : placeF l = .ok (p, r)) : r.length + 2 = l.length := by
  unfold placeF at h
  split at h
  · cases h; rfl
  · cases h
theorem itemF_len {l : List Int} {x : Int × List Cell} {r : List Int} (hl : l ≠ []) (h : itemF l = .ok (x, r)) : r.length < l.length := by
  unfold itemF at h
  split at h
  · split at h
    · cases h
    · rename_i h1
      split at h
      · cases h
      · rename_i h2
        cases h
        have a := placeF_len h1
        have b := (cellsF_len h2).1
        have : l.tail.length < l.length := by cases l; exact absurd rfl hl; simp
        omega
  · rename_i hh
    split at h
    · cases h
    · rename_i xs r1 h2
      cases h
      have b := cellsF_len h2
      refine b.2.2.2 (fun hx => ?_)
      have hr := b.2.2.1 hx
      rw [hr] at b
      rcases b.2.1 with h3 | h3
      · exact hl (by cases l; rfl; simp at h3)
      · exact hh h3
def itemsF (l : List Int) : Except Int (List (Int × List Cell)) :=
  if hl : l = [] then .ok [] else
  match h : itemF l with
  | .error e => .error e
  | .ok (x, r) => match itemsF r with | .error e => .error e | .ok xs => .ok (x :: xs)
termination_by l.length
decreasing_by exact itemF_len hl h
def inbF : List Int → Except Int Inb
  | [] => .error 20
  | a :: r => if r = [] then .ok ⟨a, true, 0, []⟩ else
    match placeF r with
    | .error e => .error e
    | .ok (c, r') => match itemsF r' with | .error e => .error e | .ok xs => .ok ⟨a, false, c, xs⟩
/-- All cells, attributes among them. -/
def bcellF : List Int → Except Int (Cell × List Int)
  | [] => .error 20
  | c :: r => if c = 29 then (match r with | [] => .error 20 | d :: r' => .ok (⟨d % 64, false, true, 0, 0⟩, r')) else cellF (c :: r)
theorem bcellF_len {l : List Int} {x : Cell} {r : List Int} (h : bcellF l = .ok (x, r)) : r.length < l.length := by
  unfold bcellF at h
  split at h
  · cases h
  · split at h
    · split at h
      · cases h
      · cases h; simp; omega
    · exact cellF_len h
def bcellsF (l : List Int) : Except Int (List Cell) :=
  if l = [] then .ok [] else
  match h : bcellF l with
  | .error e => .error e
  | .ok (x, r) => match bcellsF r with | .error e => .error e | .ok xs => .ok (x :: xs)
termination_by l.length
decreasing_by exact bcellF_len h
def bufF : List Int → Except Int (Int × Int × List Cell)
  | [] => .error 20
  | a :: r => match placeF r with
    | .error e => .error e
    | .ok (c, r') => match bcellsF r' with | .error e => .error e | .ok xs => .ok (a, c, xs)
def zinb : Inb := ⟨0, false, 0, []⟩
def inbV (l : List Int) : Inb := match inbF l with | .ok x => x | .error _ => zinb
def bufV (l : List Int) : Int × Int × List Cell := match bufF l with | .ok x => x | .error _ => (0, 0, [])
def errV {α : Type} (r : Except Int α) : Int := match r with | .ok _ => 0 | .error e => e
/-! What is written. -/
def digitM (v : Int) : Int := let v := v % 64; if (1 ≤ v % 16 ∧ v % 16 ≤ 9 ∧ v ≠ 33) ∨ v = 48 then 192 + v else 64 + v
def encodeM (p n : Int) : Option (Int × Int) :=
  if n < 1 ∨ 16384 < n ∨ p < 0 ∨ n ≤ p then none else if 4096 < n then some (p / 256, p % 256) else some (digitM (p / 64), digitM p)
def mayB (c : Cell) : Bool := !c.st && decide (c.l = 0) && decide (c.c = 0) && (if c.ge then decide (64 ≤ c.b) else plainB c.b)
def cellW (c : Cell) : List Int := if c.ge then [8, c.b] else [c.b]
def cellsW : List Cell → Except Int (List Int)
  | [] => .ok []
  | c :: cs => if mayB c = true then (match cellsW cs with | .error e => .error e | .ok l => .ok (cellW c ++ l)) else .error 21
def itemW (x : Int × List Cell) (first : Bool) (n : Int) : Except Int (List Int) :=
  if x.1 ≠ -1 ∨ first = false then
    match encodeM x.1 n with
    | none => .error 32
    | some (a, b) => match cellsW x.2 with | .error e => .error e | .ok l => .ok (17 :: a :: b :: l)
  else cellsW x.2
def itemsW (n : Int) : Bool → List (Int × List Cell) → Except Int (List Int)
  | _, [] => .ok []
  | f, x :: xs => match itemW x f n with
    | .error e => .error e
    | .ok l => match itemsW n false xs with | .error e => .error e | .ok k => .ok (l ++ k)
def writeM (i : Inb) (n : Int) : Except Int (List Int) :=
  if i.alone then .ok [i.aid] else
  match encodeM i.cur n with
  | none => .error 32
  | some (a, b) => match itemsW n true i.items with | .error e => .error e | .ok l => .ok (i.aid :: a :: b :: l)
end Gs
