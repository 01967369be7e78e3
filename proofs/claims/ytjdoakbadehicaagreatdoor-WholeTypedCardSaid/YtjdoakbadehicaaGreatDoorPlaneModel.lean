/-
  Layer 14 in plain Lean: cells, planes, what is seen of them. No program, no condition.
-/
import Derived.Test.YtjdoakbadehicaaGreatDoorRow
import Derived.Test.YtjdoakbadehicaaGreatDoorCodeModel
namespace Gs
structure Cell where
  b : Int
  ge : Bool
  st : Bool
  l : Int
  c : Int
deriving DecidableEq
def zc : Cell := ⟨0, false, false, 0, 0⟩
def cv (x : Cell) : List Go.Value := [.int .u8 x.b, .bool x.ge, .bool x.st, .int .u8 x.l, .int .u8 x.c]
theorem encC : Go.Sh.Enc cv 5 := ⟨fun _ => rfl, fun a u hu => by
  simp only [cv, List.mem_cons, List.mem_nil_iff, or_false] at hu
  rcases hu with rfl | rfl | rfl | rfl | rfl <;> rfl, by decide⟩
/-- A cell whose byte is one. -/
def Cw (x : Cell) : Prop := 0 ≤ x.b ∧ x.b ≤ 255
def Cws (cs : List Cell) : Prop := ∀ x ∈ cs, Cw x
theorem Cws.get {cs : List Cell} (h : Cws cs) {i : Nat} {x : Cell} (hx : cs[i]? = some x) : 0 ≤ x.b ∧ x.b ≤ 255 := h x (List.mem_of_getElem? hx)
theorem Cws.set {cs : List Cell} (h : Cws cs) {x : Cell} (hx : Cw x) (i : Nat) : Cws (cs.set i x) := fun y hy => by
  rcases List.mem_or_eq_of_mem_set hy with hy | rfl
  · exact h y hy
  · exact hx
theorem Cws.rep (n : Nat) : Cws (List.replicate n zc) := fun x hx => by rw [List.eq_of_mem_replicate hx]; exact ⟨by decide, by decide⟩
/-- How many cells a size has. -/
def cellsN (r c : Int) : Int := if r < 1 ∨ 43 < r ∨ c < 1 ∨ 132 < c ∨ 4096 < r * c then 0 else r * c
theorem mul_bd {r c : Int} (h : ¬ r < 1) (h1 : ¬ 43 < r) (h2 : ¬ c < 1) (h3 : ¬ 132 < c) : 1 ≤ r * c ∧ r * c ≤ 5676 := by
  have a1 : 1 * 1 ≤ r * c := Int.mul_le_mul (by omega) (by omega) (by omega) (by omega)
  have a2 : r * c ≤ 43 * 132 := Int.mul_le_mul (by omega) (by omega) (by omega) (by omega)
  omega
theorem cells_0 {r c : Int} (h : r < 1 ∨ 43 < r ∨ c < 1 ∨ 132 < c) : 0 = cellsN r c := by
  unfold cellsN; rw [if_pos (by omega)]
theorem cells_b {r c : Int} (h : ¬ r < 1) (h1 : ¬ 43 < r) (h2 : ¬ c < 1) (h3 : ¬ 132 < c) (h4 : 4096 < Go.IntKind.i64.wrap (r * c)) : 0 = cellsN r c := by
  have hb := mul_bd h h1 h2 h3
  rw [Go.Sh.wrap_i64 (by omega) (by omega)] at h4
  unfold cellsN; rw [if_pos (by omega)]
theorem cells_n {r c : Int} (h : ¬ r < 1) (h1 : ¬ 43 < r) (h2 : ¬ c < 1) (h3 : ¬ 132 < c) (h4 : ¬ 4096 < Go.IntKind.i64.wrap (r * c)) : Go.IntKind.i64.wrap (r * c) = cellsN r c := by
  have hb := mul_bd h h1 h2 h3
  rw [Go.Sh.wrap_i64 (by omega) (by omega)] at h4 ⊢
  unfold cellsN; rw [if_neg (by omega)]
theorem cells_bd (r c : Int) : 0 ≤ cellsN r c ∧ cellsN r c ≤ 4096 := by
  unfold cellsN
  split
  · omega
  · have := mul_bd (r := r) (c := c) (by omega) (by omega) (by omega) (by omega)
    omega
theorem cells_pos {r c : Int} (h : cellsN r c ≠ 0) : 1 ≤ r ∧ r ≤ 43 ∧ 1 ≤ c ∧ c ≤ 132 ∧ cellsN r c = r * c := by
  unfold cellsN at h ⊢
  split at h
  · exact absurd rfl h
  · rename_i hn
    rw [if_neg hn]
    omega
/-- A cell turned, where there is one. -/
def setC (cs : List Cell) (at' : Int) (x : Cell) : List Cell := if 0 ≤ at' ∧ at' < cs.length then cs.set at'.toNat x else cs
theorem setC_len (cs : List Cell) (i : Int) (x : Cell) : (setC cs i x).length = cs.length := by unfold setC; split <;> simp
theorem setC_in {cs : List Cell} {i : Int} (x : Cell) (h0 : 0 ≤ i) (h1 : i < cs.length) : setC cs i x = cs.set i.toNat x := by unfold setC; rw [if_pos ⟨h0, h1⟩]
theorem setC_out {cs : List Cell} {i : Int} (x : Cell) (h : ¬ (0 ≤ i ∧ i < cs.length)) : setC cs i x = cs := by unfold setC; rw [if_neg h]
theorem Cws.setC {cs : List Cell} (h : Cws cs) {x : Cell} (hx : Cw x) (i : Int) : Cws (Gs.setC cs i x) := by
  unfold Gs.setC; split
  · exact h.set hx _
  · exact h
def getC (cs : List Cell) (i : Int) : Cell := if 0 ≤ i ∧ i < cs.length then cs.getD i.toNat zc else zc
theorem getC_in {cs : List Cell} {i : Int} {x : Cell} (h0 : 0 ≤ i) (h : cs[i.toNat]? = some x) : getC cs i = x := by
  have := (List.getElem?_eq_some_iff.1 h).1
  unfold getC; rw [if_pos (by omega)]; simp [List.getD, h]
theorem getC_out {cs : List Cell} {i : Int} (h : ¬ (0 ≤ i ∧ i < cs.length)) : getC cs i = zc := by unfold getC; rw [if_neg h]
/-- A place so many further on. -/
def moveN (n a b : Int) : Int := if n = 0 then 0 else (a + b) % n
theorem tmod_bd (x : Int) {n : Int} (h : 0 < n) : -n < x.tmod n ∧ x.tmod n < n := ⟨Int.lt_tmod_of_pos x h, Int.tmod_lt_of_pos x h⟩
theorem tmod_emod (x : Int) {n : Int} (h : 0 < n) : (x.tmod n) % n = x % n := by
  rw [Int.tmod_def]
  have : x - n * x.tdiv n = x + n * (- x.tdiv n) := by rw [Int.mul_neg]; omega
  rw [this]
  simp
theorem move_eq {n a b : Int} (h : 0 < n) : (((a.tmod n + b.tmod n).tmod n) + n).tmod n = moveN n a b := by
  have h1 := tmod_bd (a.tmod n + b.tmod n) h
  unfold moveN
  rw [if_neg (by omega), Int.tmod_eq_emod_of_nonneg (by omega), Int.add_emod_right, tmod_emod _ h, Int.add_emod, tmod_emod _ h, tmod_emod _ h, ← Int.add_emod]
/-- The places from one on, up to another one. -/
def betwL (n i j : Int) : Nat := if i < 0 ∨ n ≤ i ∨ j < 0 ∨ n ≤ j then 0 else (if j - i ≤ 0 then j - i + n else j - i).toNat
def betw (n i j : Int) : List Int := (List.range (betwL n i j)).map fun k : Nat => (i + k) % n
theorem betw_len (n i j : Int) : (betw n i j).length = betwL n i j := by simp [betw]
theorem betw_at {n i j : Int} {k : Nat} (h : k < betwL n i j) : (betw n i j)[k]? = some ((i + k) % n) := by simp [betw, h]
theorem betw_get {n i j : Int} {k : Nat} {x : Int} (h : (betw n i j)[k]? = some x) : 0 ≤ x ∧ x < n := by
  have hk := (List.getElem?_eq_some_iff.1 h).1
  rw [betw_len] at hk
  rw [betw_at hk] at h
  have hx : (i + k) % n = x := by simpa using h
  unfold betwL at hk
  split at hk
  · simp at hk
  · have h1 := Int.emod_nonneg (i + k) (by omega : n ≠ 0)
    have h2 := Int.emod_lt_of_pos (i + k) (by omega : 0 < n)
    omega
theorem betw_le {r c i j : Int} : (betwL (cellsN r c) i j : Int) ≤ cellsN r c ∧ cellsN r c ≤ 4096 := by
  have hb := cells_bd r c
  unfold betwL
  split
  · omega
  · split <;> omega
/-- Cells turned, place by place. -/
def fillC (cs : List Cell) (l : List Int) (x : Cell) : List Cell := l.foldl (fun cs i => cs.set i.toNat x) cs
theorem fill_len (cs : List Cell) (l : List Int) (x : Cell) : (fillC cs l x).length = cs.length := by
  induction l generalizing cs with
  | nil => rfl
  | cons i l ih => simp only [fillC, List.foldl_cons] at *; rw [ih]; simp
theorem fill_take {cs : List Cell} {l : List Int} {x : Cell} {k : Nat} {i : Int} (h : l[k]? = some i) : (fillC cs (l.take k) x).set i.toNat x = fillC cs (l.take (k + 1)) x := by
  rw [List.take_add_one, h]; simp [fillC, List.foldl_append]
theorem Cws.fill {cs : List Cell} (h : Cws cs) {x : Cell} (hx : Cw x) (l : List Int) : Cws (fillC cs l x) := by
  induction l generalizing cs with
  | nil => exact h
  | cons i l ih => exact ih (h.set hx _)
theorem betw_0 {n i j : Int} (h : i < 0 ∨ n ≤ i ∨ j < 0 ∨ n ≤ j) : betwL n i j = 0 := by unfold betwL; rw [if_pos h]
theorem betw_1 {n i j : Int} (h : ¬ (i < 0 ∨ n ≤ i ∨ j < 0 ∨ n ≤ j)) : (betwL n i j : Int) = if j - i ≤ 0 then j - i + n else j - i := by
  unfold betwL; rw [if_neg h]; split <;> omega
/-- How far a place is behind another one. -/
theorem behind {n i : Int} {k : Nat} (h : (k : Int) < n) : ((i + k) % n - i) % n = k := by
  rw [Int.emod_sub_emod, show i + (k : Int) - i = k by omega]
  exact Int.emod_eq_of_lt (by omega) h
theorem move_1 {n i : Int} {k : Nat} (h : 0 < n) : moveN n ((i + k) % n) 1 = (i + (k + 1 : Nat)) % n := by
  unfold moveN
  rw [if_neg (by omega), Int.emod_add_emod]
  congr 1
  omega
/-- The round is the last one just where the next place is the end. -/
theorem betw_end {n i j : Int} (h : ¬ (i < 0 ∨ n ≤ i ∨ j < 0 ∨ n ≤ j)) {k : Nat} (hk : k < betwL n i j) : ((i + (k + 1 : Nat)) % n = j) ↔ k + 1 = betwL n i j := by
  have hb := betw_1 h
  have hl : (betwL n i j : Int) ≤ n ∧ 0 < (betwL n i j : Int) := by rw [hb]; split <;> omega
  have e1 : j = (i + (betwL n i j : Nat)) % n := by
    rw [hb]
    split
    · rw [show i + (j - i + n) = j + n by omega, Int.add_emod_right, Int.emod_eq_of_lt (by omega) (by omega)]
    · rw [show i + (j - i) = j by omega, Int.emod_eq_of_lt (by omega) (by omega)]
  constructor
  · intro he
    have h1 : ((i + (betwL n i j : Nat)) - (i + (k + 1 : Nat))) % n = 0 := by rw [Int.sub_emod, ← e1, he]; simp
    rw [show (i + ((betwL n i j : Nat) : Int)) - (i + ((k + 1 : Nat) : Int)) = (betwL n i j : Nat) - (k + 1 : Nat) by omega, Int.emod_eq_of_lt (by omega) (by omega)] at h1
    omega
  · intro he
    rw [he]; exact e1.symm
end Gs
