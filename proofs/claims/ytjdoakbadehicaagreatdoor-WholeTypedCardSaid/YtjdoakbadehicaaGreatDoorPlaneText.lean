/-
  Layer 14 in plain Lean: what is seen of a plane. No program, no condition.
-/
import Derived.Test.YtjdoakbadehicaaGreatDoorPlaneModel
import Derived.Test.YtjdoakbadehicaaGreatDoorCodeText
namespace Gs
open Go
theorem enc32 : Utf8.encode 32 = ⟨#[32]⟩ := by decide +kernel
/-- The sign that is seen of a cell. -/
def sign1 (page : Int) (x : Cell) : Int := if x.st = true then 32 else if x.ge = true then 57344 + x.b else if 64 ≤ x.b ∧ x.b ≤ 254 then sign page x.b else 32
theorem sign1_st {page : Int} {x : Cell} (h : x.st = true) : sign1 page x = 32 := by unfold sign1; rw [if_pos h]
theorem sign1_ge {page : Int} {x : Cell} (h : ¬ x.st = true) (h2 : x.ge = true) : sign1 page x = 57344 + x.b := by unfold sign1; rw [if_neg h, if_pos h2]
theorem sign1_on {page : Int} {x : Cell} (h : ¬ x.st = true) (h2 : ¬ x.ge = true) (h3 : 64 ≤ x.b ∧ x.b ≤ 254) : sign1 page x = sign page x.b := by unfold sign1; rw [if_neg h, if_neg h2, if_pos h3]
theorem sign1_no {page : Int} {x : Cell} (h : ¬ x.st = true) (h2 : ¬ x.ge = true) (h3 : ¬ (64 ≤ x.b ∧ x.b ≤ 254)) : sign1 page x = 32 := by unfold sign1; rw [if_neg h, if_neg h2, if_neg h3]
/-- The cell that lies so many behind a place. -/
def cellAt (cs : List Cell) (f : Int) (i : Nat) : Cell := cs.getD ((f + i) % cs.length).toNat zc
theorem cellAt_eq {cs : List Cell} {f : Int} {i : Nat} {x : Cell} {n : Nat} (hn : n = cs.length) (h : cs[((f + i) % (n : Int)).toNat]? = some x) : cellAt cs f i = x := by
  unfold cellAt; rw [← hn]; simp [List.getD, h]
def sgl (page : Int) (cs : List Cell) (f : Int) (m : Nat) : List Int := (List.range m).map fun i => sign1 page (cellAt cs f i)
theorem sgl_len (page : Int) (cs : List Cell) (f : Int) (m : Nat) : (sgl page cs f m).length = m := by simp [sgl]
theorem sgl_step (page : Int) (cs : List Cell) (f : Int) (m : Nat) : sgl page cs f (m + 1) = sgl page cs f m ++ [sign1 page (cellAt cs f m)] := by simp [sgl, List.range_succ]
theorem runes_snoc (l : List Int) (x : Int) : runesBytes (l ++ [x]) = runesBytes l ++ Utf8.encode x := by simp [runesBytes, List.foldl_append]
theorem sgl_text (page : Int) (cs : List Cell) (f : Int) (m : Nat) : runesBytes (sgl page cs f (m + 1)) = runesBytes (sgl page cs f m) ++ Utf8.encode (sign1 page (cellAt cs f m)) := by rw [sgl_step, runes_snoc]
theorem sgl_size (page : Int) (cs : List Cell) (f : Int) (m : Nat) : (runesBytes (sgl page cs f m)).size ≤ 4 * m := by
  have := runesBytes_size_le (sgl page cs f m); rwa [sgl_len] at this
/-- Cells as a text. -/
def textOf (page : Int) (cs : List Cell) (f n : Int) : ByteArray := if 0 ≤ f ∧ f < cs.length then runesBytes (sgl page cs f (min (max n 0) cs.length).toNat) else ⟨#[]⟩
theorem text_out {page : Int} {cs : List Cell} {f n : Int} (h : ¬ (0 ≤ f ∧ f < cs.length)) : textOf page cs f n = ⟨#[]⟩ := by unfold textOf; rw [if_neg h]
theorem text_in {page : Int} {cs : List Cell} {f n : Int} (h : 0 ≤ f ∧ f < cs.length) : textOf page cs f n = runesBytes (sgl page cs f (min (max n 0) cs.length).toNat) := by unfold textOf; rw [if_pos h]
theorem text_size (page : Int) (cs : List Cell) (f n : Int) : (textOf page cs f n).size ≤ 4 * cs.length := by
  unfold textOf
  split
  · have := sgl_size page cs f (min (max n 0) cs.length).toNat
    omega
  · simp [ByteArray.size]
theorem held_eq {n m : Int} (hm : 0 ≤ m) : (if n < 0 then (0 : Int) else if m < n then m else n) = min (max n 0) m := by
  split
  · omega
  · split <;> omega
def rowsL (page c : Int) (cs : List Cell) (k : Nat) : List ByteArray := (List.range k).map fun i : Nat => textOf page cs ((i : Int) * c) c
theorem rowsL_step (page c : Int) (cs : List Cell) (k : Nat) : rowsL page c cs (k + 1) = rowsL page c cs k ++ [textOf page cs (k * c) c] := by simp [rowsL, List.range_succ]
theorem rowsL_len (page c : Int) (cs : List Cell) (k : Nat) : (rowsL page c cs k).length = k := by simp [rowsL]
def strs (l : List ByteArray) : List Value := l.map .string
theorem strs_len (l : List ByteArray) : (strs l).length = l.length := by simp [strs]
theorem own_strs {B : Nat} {w : World} {e : Nat} {v : Value} {l : List ByteArray} {s : ByteArray} (h : Sh.Own B w e 1 v (strs l ++ [.string s])) : Sh.Own B w e 1 v (strs (l ++ [s])) := by
  simpa [strs] using h
theorem mul_row {k : Nat} {r c : Int} (hk : (k : Int) < r) (hr : r ≤ 43) (h1 : 1 ≤ c) (h2 : c ≤ 132) : 0 ≤ (k : Int) * c ∧ (k : Int) * c ≤ 5676 := by
  constructor
  · exact Int.mul_nonneg (by omega) (by omega)
  · have : (k : Int) * c ≤ 43 * 132 := Int.mul_le_mul (by omega) h2 (by omega) (by omega)
    omega
theorem tab_atI {page b x : Int} (h0 : 0 ≤ b) (h : (tab page)[b.toNat]? = some x) : x = sign page b := by
  have := (tab_get h).2
  rw [this]; congr 1; omega
theorem tab_length (page : Int) : (tab page).length = 256 := tabIn_length _
end Gs
