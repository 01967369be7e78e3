/-
  Layer 25 in plain Lean: small functions. No program, no condition.
-/
import Derived.Test.YtjdoakbadehicaaGreatDoorGramLaws
import Derived.Test.YtjdoakbadehicaaGreatDoorPlaneText
import Derived.Lib.ItoaMem
import Derived.Lib.ItoaLen
namespace Gs
open Go
theorem digit_mod (v : Int) : digitM (v % 64) = digitM v := by
  unfold digitM
  rw [Int.emod_emod_of_dvd v (by decide : (64 : Int) ∣ 64)]
/-- What the two functions hand back of a place. -/
def encP (p n : Int) : Int × Int × Int := match encodeM p n with | none => (0, 0, 1) | some (a, b) => (a, b, 0)
theorem encP_out {p n : Int} (h : n < 1 ∨ 16384 < n ∨ p < 0 ∨ n ≤ p) : encP p n = (0, 0, 1) := by unfold encP encodeM; rw [if_pos h]
theorem encP_big {p n : Int} (h : ¬ (n < 1 ∨ 16384 < n ∨ p < 0 ∨ n ≤ p)) (h2 : 4096 < n) : encP p n = (p / 256, p % 256, 0) := by unfold encP encodeM; rw [if_neg h, if_pos h2]
theorem encP_small {p n : Int} (h : ¬ (n < 1 ∨ 16384 < n ∨ p < 0 ∨ n ≤ p)) (h2 : ¬ 4096 < n) : encP p n = (digitM (p / 64), digitM p, 0) := by unfold encP encodeM; rw [if_neg h, if_neg h2]
theorem encP_none {p n : Int} (h : ¬ (encP p n).2.2 = 0) : encodeM p n = none := by
  unfold encP at h
  split at h
  · assumption
  · exact absurd rfl h
theorem encP_some {p n : Int} (h : (encP p n).2.2 = 0) : encodeM p n = some ((encP p n).1, (encP p n).2.1) := by
  cases he : encodeM p n with
  | none => unfold encP at h; rw [he] at h; exact absurd h (by decide)
  | some x => obtain ⟨a, b⟩ := x; unfold encP; rw [he]
theorem encP_bd (p n : Int) : 0 ≤ (encP p n).1 ∧ (encP p n).1 ≤ 255 ∧ 0 ≤ (encP p n).2.1 ∧ (encP p n).2.1 ≤ 255 := by
  unfold encP
  split
  · decide
  · rename_i a b h
    have := dec_enc h
    dsimp only
    omega
/-! Plain bytes. -/
def plL : List Int := [0, 12, 13, 21, 25, 28, 30, 63]
theorem plain_in {b : Int} (h : 64 ≤ b) : plainB b = true := by simp [plainB, h]
theorem plain_hit {b : Int} {k : Nat} {x : Int} (hx : plL[k]? = some x) (h : x = b) : plainB b = true := by
  subst h
  have hm : x ∈ plL := List.mem_of_getElem? hx
  have : ∀ x ∈ plL, plainB x = true := by decide
  exact this x hm
def noPl (b : Int) (k : Nat) : Prop := ∀ (j : Nat) (x : Int), j < k → plL[j]? = some x → ¬ x = b
theorem noPl_0 (b : Int) : noPl b 0 := fun j x hj => by omega
theorem noPl_step {b : Int} {k : Nat} {x : Int} (h : noPl b k) (hx : plL[k]? = some x) (hn : ¬ x = b) : noPl b (k + 1) := fun j y hj hy => by
  by_cases e : j = k
  · subst e; rw [hx] at hy; exact fun e2 => hn ((Option.some.inj hy).trans e2)
  · exact h j y (by omega) hy
theorem plain_no {b : Int} (h : noPl b 8) (h64 : ¬ 64 ≤ b) : plainB b = false := by
  have h0 := h 0 0 (by decide) rfl
  have h1 := h 1 12 (by decide) rfl
  have h2 := h 2 13 (by decide) rfl
  have h3 := h 3 21 (by decide) rfl
  have h4 := h 4 25 (by decide) rfl
  have h5 := h 5 28 (by decide) rfl
  have h6 := h 6 30 (by decide) rfl
  have h7 := h 7 63 (by decide) rfl
  unfold plainB
  rw [decide_eq_false h64, decide_eq_false (by omega)]
  rfl
theorem plain_ge {b : Int} (h : ¬ (b = 0 ∨ b = 12 ∨ b = 13 ∨ b = 21 ∨ b = 25 ∨ b = 28 ∨ b = 30 ∨ b = 63)) : plainB b = decide (64 ≤ b) := by
  unfold plainB; rw [decide_eq_false h, Bool.or_false]
theorem plain_list {b : Int} (h : b = 0 ∨ b = 12 ∨ b = 13 ∨ b = 21 ∨ b = 25 ∨ b = 28 ∨ b = 30 ∨ b = 63) : plainB b = true := by
  unfold plainB; rw [decide_eq_true h, Bool.or_true]
/-! Attention keys. -/
def attN (b : Int) : Int := if 241 ≤ b ∧ b ≤ 249 then b - 240 else if 122 ≤ b ∧ b ≤ 124 then b - 112 else if 193 ≤ b ∧ b ≤ 201 then b - 180 else if 74 ≤ b ∧ b ≤ 76 then b - 52 else 0
def attP (b : Int) : ByteArray := if b = 125 then ⟨#[69, 78, 84, 69, 82]⟩ else if b = 109 then ⟨#[67, 76, 69, 65, 82]⟩ else if b = 108 then ⟨#[80, 65, 49]⟩ else if b = 110 then ⟨#[80, 65, 50]⟩ else if b = 107 then ⟨#[80, 65, 51]⟩ else ⟨#[]⟩
def itoaS (n : Int) : ByteArray := ⟨(Lib.itoa n).toArray⟩
def attS (b : Int) : ByteArray := if 0 < attN b then ⟨#[80, 70]⟩ ++ itoaS (attN b) else attP b
theorem attN_bd (b : Int) : 0 ≤ attN b ∧ attN b ≤ 24 := by unfold attN; split <;> (try split) <;> (try split) <;> (try split) <;> omega
theorem itoaS_nat (n : Nat) : itoaS n = ⟨(Lib.decDigits n).toArray⟩ := by unfold itoaS; rw [Lib.itoa_nonneg]
theorem bytes_ne {x y : ByteArray} (h : x.data.toList ≠ y.data.toList) : x ≠ y := fun e => h (by rw [e])
theorem pf_ne (n : Int) : (⟨#[80, 70]⟩ : ByteArray) ++ itoaS n ≠ ⟨#[]⟩ := by
  intro e
  have := congrArg ByteArray.size e
  rw [ByteArray.size_append] at this
  have h2 : (⟨#[80, 70]⟩ : ByteArray).size = 2 := rfl
  have h3 : (⟨#[]⟩ : ByteArray).size = 0 := rfl
  omega
def keysL : List Int := [125, 109, 108, 110, 107, 241, 242, 243, 244, 245, 246, 247, 248, 249, 122, 123, 124, 193, 194, 195, 196, 197, 198, 199, 200, 201, 74, 75, 76]
def knmL : List ByteArray := [⟨#[69, 78, 84, 69, 82]⟩, ⟨#[67, 76, 69, 65, 82]⟩, ⟨#[80, 65, 49]⟩, ⟨#[80, 65, 50]⟩, ⟨#[80, 65, 51]⟩]
theorem keys_lo {k : Nat} {x b : Int} {s : ByteArray} (hx : keysL[k]? = some x) (h : x = b) (hs : knmL[k]? = some s) : s = attS b := by
  subst h
  have hk : k < 5 := (List.getElem?_eq_some_iff.1 hs).1
  have : k = 0 ∨ k = 1 ∨ k = 2 ∨ k = 3 ∨ k = 4 := by omega
  rcases this with rfl | rfl | rfl | rfl | rfl <;> (cases hx; cases hs; rfl)
theorem keys_hi {k : Nat} {x b : Int} (hx : keysL[k]? = some x) (h : x = b) (hk : ¬ k < 5) : (⟨#[80, 70]⟩ : ByteArray) ++ itoaS ((k : Int) - 4) = attS b := by
  subst h
  have hlt : k < 29 := (List.getElem?_eq_some_iff.1 hx).1
  have key : ∀ i : Fin 29, ¬ i.val < 5 → attN (keysL.getD i.val 0) = (i.val : Int) - 4 := by decide
  have hg : keysL.getD k 0 = x := by rw [List.getD_eq_getElem?_getD, hx]; rfl
  have h1 := key ⟨k, hlt⟩ hk
  dsimp only at h1
  rw [hg] at h1
  unfold attS
  rw [h1, if_pos (by omega)]
def noKey (b : Int) (k : Nat) : Prop := ∀ (j : Nat) (x : Int), j < k → keysL[j]? = some x → ¬ x = b
theorem noKey_0 (b : Int) : noKey b 0 := fun j x hj => by omega
theorem noKey_step {b : Int} {k : Nat} {x : Int} (h : noKey b k) (hx : keysL[k]? = some x) (hn : ¬ x = b) : noKey b (k + 1) := fun j y hj hy => by
  by_cases e : j = k
  · subst e; rw [hx] at hy; exact fun e2 => hn ((Option.some.inj hy).trans e2)
  · exact h j y (by omega) hy
theorem keys_no {b : Int} (h : noKey b 29) : attS b = ⟨#[]⟩ := by
  have hn : ∀ i : Fin 29, ¬ keysL.getD i.val 0 = b := fun i => by
    refine h i.val _ i.isLt ?_
    rw [List.getD_eq_getElem?_getD, List.getElem?_eq_getElem (by show i.val < 29; exact i.isLt)]; rfl
  have g : ∀ (j : Nat) (hj : j < 29), ¬ keysL.getD j 0 = b := fun j hj => hn ⟨j, hj⟩
  have e0 := g 0 (by decide); have e1 := g 1 (by decide); have e2 := g 2 (by decide); have e3 := g 3 (by decide); have e4 := g 4 (by decide)
  have e5 := g 5 (by decide); have e6 := g 6 (by decide); have e7 := g 7 (by decide); have e8 := g 8 (by decide); have e9 := g 9 (by decide)
  have e10 := g 10 (by decide); have e11 := g 11 (by decide); have e12 := g 12 (by decide); have e13 := g 13 (by decide); have e14 := g 14 (by decide)
  have e15 := g 15 (by decide); have e16 := g 16 (by decide); have e17 := g 17 (by decide); have e18 := g 18 (by decide); have e19 := g 19 (by decide)
  have e20 := g 20 (by decide); have e21 := g 21 (by decide); have e22 := g 22 (by decide); have e23 := g 23 (by decide); have e24 := g 24 (by decide)
  have e25 := g 25 (by decide); have e26 := g 26 (by decide); have e27 := g 27 (by decide); have e28 := g 28 (by decide)
  have k0 : keysL.getD 0 0 = 125 := rfl
  simp only [show keysL.getD 0 0 = 125 from rfl, show keysL.getD 1 0 = 109 from rfl, show keysL.getD 2 0 = 108 from rfl, show keysL.getD 3 0 = 110 from rfl, show keysL.getD 4 0 = 107 from rfl, show keysL.getD 5 0 = 241 from rfl, show keysL.getD 6 0 = 242 from rfl, show keysL.getD 7 0 = 243 from rfl, show keysL.getD 8 0 = 244 from rfl, show keysL.getD 9 0 = 245 from rfl, show keysL.getD 10 0 = 246 from rfl, show keysL.getD 11 0 = 247 from rfl, show keysL.getD 12 0 = 248 from rfl, show keysL.getD 13 0 = 249 from rfl, show keysL.getD 14 0 = 122 from rfl, show keysL.getD 15 0 = 123 from rfl, show keysL.getD 16 0 = 124 from rfl, show keysL.getD 17 0 = 193 from rfl, show keysL.getD 18 0 = 194 from rfl, show keysL.getD 19 0 = 195 from rfl, show keysL.getD 20 0 = 196 from rfl, show keysL.getD 21 0 = 197 from rfl, show keysL.getD 22 0 = 198 from rfl, show keysL.getD 23 0 = 199 from rfl, show keysL.getD 24 0 = 200 from rfl, show keysL.getD 25 0 = 201 from rfl, show keysL.getD 26 0 = 74 from rfl, show keysL.getD 27 0 = 75 from rfl, show keysL.getD 28 0 = 76 from rfl] at e0 e1 e2 e3 e4 e5 e6 e7 e8 e9 e10 e11 e12 e13 e14 e15 e16 e17 e18 e19 e20 e21 e22 e23 e24 e25 e26 e27 e28
  have ha : attN b = 0 := by unfold attN; split <;> (try split) <;> (try split) <;> (try split) <;> omega
  unfold attS attP
  rw [ha, if_neg (by decide), if_neg (by omega), if_neg (by omega), if_neg (by omega), if_neg (by omega), if_neg (by omega)]
def hexB : ByteArray := ⟨#[48, 49, 50, 51, 52, 53, 54, 55, 56, 57, 65, 66, 67, 68, 69, 70]⟩
def hexS (b : Int) : ByteArray := hexB.extract (b / 16).toNat (b / 16 + 1).toNat ++ hexB.extract (b % 16).toNat (b % 16 + 1).toNat
def nameS (b : Int) : ByteArray := if attS b = ⟨#[]⟩ then hexS b else attS b
theorem extract_size (i : Nat) : (hexB.extract i (i + 1)).size ≤ 1 := by
  rw [ByteArray.size_extract]; omega
theorem hexS_size {b : Int} (h : 0 ≤ b) : (hexB.extract (b / 16).toNat (b / 16 + 1).toNat).size + (hexB.extract (b % 16).toNat (b % 16 + 1).toNat).size ≤ 2 := by
  rw [ByteArray.size_extract, ByteArray.size_extract]; omega
theorem nameS_size {b : Int} (h : 0 ≤ b ∧ b ≤ 255) : (nameS b).size ≤ 100 := by
  unfold nameS
  split
  · unfold hexS; rw [ByteArray.size_append]; have := hexS_size h.1; omega
  · unfold attS
    split
    · rw [ByteArray.size_append]
      have hb := attN_bd b
      obtain ⟨n, hn⟩ := Int.eq_ofNat_of_zero_le hb.1
      rw [hn, itoaS_nat]
      have : ∀ i : Fin 25, (Lib.decDigits i.val).length ≤ 2 := by decide +kernel
      have h2 := this ⟨n, by omega⟩
      have h3 : (⟨#[80, 70]⟩ : ByteArray).size = 2 := rfl
      have h4 : (⟨(Lib.decDigits n).toArray⟩ : ByteArray).size = (Lib.decDigits n).length := Sh.str_size _
      dsimp only at h2
      omega
    · unfold attP
      split
      · decide
      · split
        · decide
        · split
          · decide
          · split
            · decide
            · split <;> decide
end Gs
namespace Gs
open Go
theorem may_no {c : Cell} (h : ¬ c = ⟨c.b, c.ge, false, 0, 0⟩) : false = mayB c := by
  cases hm : mayB c with
  | false => rfl
  | true => exact absurd (may_cell hm).1 h
theorem may_ge {c : Cell} (h : c = ⟨c.b, c.ge, false, 0, 0⟩) (hg : c.ge = true) : decide (64 ≤ c.b) = mayB c := by
  rw [h]; simp [mayB, hg]
theorem may_pl {c : Cell} (h : c = ⟨c.b, c.ge, false, 0, 0⟩) (hg : c.ge = false) : plainB c.b = mayB c := by
  rw [h]; simp [mayB, hg]
theorem sign1_sp {page : Int} {c : Cell} (h : c.st = true ∨ (c.ge = false ∧ ¬ (64 ≤ c.b ∧ c.b ≤ 254))) : (⟨#[32]⟩ : ByteArray) = Utf8.encode (sign1 page c) := by
  have : sign1 page c = 32 := by
    rcases h with h | ⟨h, h2⟩
    · exact sign1_st h
    · by_cases hs : c.st = true
      · exact sign1_st hs
      · unfold sign1; rw [if_neg hs, if_neg (by rw [h]; decide), if_neg h2]
  rw [this]; rfl
theorem itoaS_size2 {n : Int} (h : 0 ≤ n ∧ n < 100) : (itoaS n).size ≤ 21 := by
  unfold itoaS
  rw [Sh.str_size]
  exact Lib.itoa_length_le n (by omega) (by omega)
theorem itoaS_size {n : Int} (h : -9223372036854775808 ≤ n ∧ n ≤ 9223372036854775807) : (itoaS n).size ≤ 21 := by
  unfold itoaS
  rw [Sh.str_size]
  exact Lib.itoa_length_le n h.1 h.2
end Gs
namespace Go.Sh
open Go
variable {P : Program} {w : World} {R : Ending → World → Prop} {K : Value → World → Prop}
theorem idx_strs {t T len cap : Nat} {k : IntKind} {i : Int} {A : Option Addr} {l : List ByteArray} (hn : slN P t = some 1) (hT : isOne P T = true) (hr : Rd w A (Gs.strs l)) (hl : len = l.length) (h0 : 0 ≤ i) (h1 : i < len)
    (h : ∀ x, l[i.toNat]? = some x → K (.string x) w) : opv ((Instr.indexAt t (.slice A len cap) (.int k i)).run P w) R fun a w => opv ((Instr.loadAt T a).run P w) R K := by
  have hi : i.toNat < l.length := by omega
  have hx : l[i.toNat]? = some l[i.toNat] := List.getElem?_eq_getElem hi
  exact idx_load1 hn hT hr (by simp [Gs.strs]; exact hl) h0 h1 (by rw [Gs.strs, List.getElem?_map, hx]; rfl) (h _ hx)
end Go.Sh
