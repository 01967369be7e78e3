/-
  Layer 14 in plain Lean: what its laws say. No program, no condition.
-/
import Derived.Test.YtjdoakbadehicaaGreatDoorPlaneFind
import Derived.Test.YtjdoakbadehicaaGreatDoorBits
namespace Gs
open Go
theorem getC_at {cs : List Cell} {k : Nat} (h : k < cs.length) : cs[k]? = some (getC cs k) := by
  unfold getC
  rw [if_pos (by omega)]
  simp [List.getD, List.getElem?_eq_getElem h]
theorem place (i : Int) {N : Nat} (h : N ≠ 0) : 0 ≤ i % 4096 % (N : Int) ∧ i % 4096 % (N : Int) < N :=
  ⟨Int.emod_nonneg _ (by omega), Int.emod_lt_of_pos _ (by omega)⟩
theorem getC_set {cs : List Cell} {i k : Int} {x : Cell} (hi : 0 ≤ i ∧ i < cs.length) (hk : 0 ≤ k ∧ k < cs.length) : getC (cs.set i.toNat x) k = if i = k then x else getC cs k := by
  unfold getC
  rw [List.length_set, if_pos hk]
  simp only [List.getD]
  rw [List.getElem?_set]
  by_cases h : i = k
  · subst h; simp [show i.toNat < cs.length by omega]
  · rw [if_neg (by omega), if_neg h, if_pos hk]
theorem fill_get {l : List Int} {x : Cell} {k : Int} : ∀ {cs : List Cell}, (∀ i ∈ l, 0 ≤ i ∧ i < cs.length) → 0 ≤ k ∧ k < cs.length → getC (fillC cs l x) k = if k ∈ l then x else getC cs k := by
  induction l with
  | nil => intro cs _ _; simp [fillC]
  | cons i l ih =>
    intro cs h hk
    have h1 := h i (by simp)
    show getC (fillC (cs.set i.toNat x) l x) k = _
    rw [ih (fun j hj => by rw [List.length_set]; exact h j (by simp [hj])) (by rw [List.length_set]; exact hk), getC_set h1 hk]
    by_cases h2 : k ∈ l
    · simp [h2]
    · by_cases h3 : i = k
      · subst h3; simp [h2]
      · rw [if_neg h2, if_neg h3, if_neg (by simp only [List.mem_cons, not_or]; exact ⟨Ne.symm h3, h2⟩)]
theorem rnd {k f : Int} {N : Nat} (hf : 0 ≤ f ∧ f < N) (hk : 0 ≤ k ∧ k < N) : (k - f + N) % N = if k < f then k - f + N else k - f := by
  split
  · exact Int.emod_eq_of_lt (by omega) (by omega)
  · rw [Int.add_emod_right]; exact Int.emod_eq_of_lt (by omega) (by omega)
theorem betwN {N : Nat} {f t : Int} (hf : 0 ≤ f ∧ f < N) (ht : 0 ≤ t ∧ t < N) : (betwL N f t : Int) = if t - f ≤ 0 then t - f + N else t - f := betw_1 (by omega)
theorem betw_mem {N : Nat} {f t k : Int} (hf : 0 ≤ f ∧ f < N) (ht : 0 ≤ t ∧ t < N) (hk : 0 ≤ k ∧ k < N) : k ∈ betw N f t ↔ (k - f + N) % N < (betw N f t).length := by
  have hb := betwN hf ht
  have hbl : (betwL N f t : Int) ≤ N := by rw [hb]; split <;> omega
  rw [betw_len]
  constructor
  · intro h
    obtain ⟨j, hj⟩ := List.getElem?_of_mem h
    have hjl := (List.getElem?_eq_some_iff.1 hj).1
    rw [betw_len] at hjl
    rw [betw_at hjl] at hj
    have hj' : (f + j) % N = k := by simpa using hj
    rw [← hj', Int.add_emod_right, behind (by omega)]
    omega
  · intro h
    have h0 := Int.emod_nonneg (k - f + N) (by omega : (N : Int) ≠ 0)
    have hat := betw_at (n := N) (i := f) (j := t) (k := ((k - f + N) % N).toNat) (by omega)
    rw [Int.toNat_of_nonneg h0, Int.add_comm f, Int.emod_add_emod, show k - f + N + f = k + N by omega, show (k + N) % N = k by rw [Int.add_emod_right]; exact Int.emod_eq_of_lt hk.1 hk.2] at hat
    exact List.mem_of_getElem? hat
theorem betw_in {N : Nat} {f t : Int} (i : Int) (h : i ∈ betw N f t) : 0 ≤ i ∧ i < N := by
  obtain ⟨j, hj⟩ := List.getElem?_of_mem h
  exact betw_get hj
theorem fills_in {N : Nat} {ps : List Cell} {x : Cell} {f t : Int} {k : Nat} (hN : N = ps.length) (hf : 0 ≤ f ∧ f < N) (ht : 0 ≤ t ∧ t < N) (hk : k < N) (h : ((k : Int) - f + N) % N < ((betw N f t).length : Nat)) : getC (fillC ps (betw N f t) x) k = x := by
  rw [fill_get (fun i hi => by have := betw_in i hi; omega) (by omega), if_pos ((betw_mem hf ht (by omega)).2 h)]
theorem fills_out {N : Nat} {ps : List Cell} {x : Cell} {f t : Int} {k : Nat} (hN : N = ps.length) (hf : 0 ≤ f ∧ f < N) (ht : 0 ≤ t ∧ t < N) (hk : k < N) (h : ¬ ((k : Int) - f + N) % N < ((betw N f t).length : Nat)) : getC (fillC ps (betw N f t) x) k = getC ps k := by
  rw [fill_get (fun i hi => by have := betw_in i hi; omega) (by omega), if_neg (fun hm => h ((betw_mem hf ht (by omega)).1 hm))]
/-- What is filled: from one place to another one, and where these are two, back too. -/
def fillsC (N : Nat) (ps : List Cell) (f t : Int) (x : Cell) : List Cell := if f = t then fillC ps (betw N f t) x else fillC (fillC ps (betw N f t) x) (betw N t f) x
def fillsN (N : Nat) (f t : Int) : Int := if f = t then ((betw N f t).length : Nat) else ((betw N f t).length : Nat) + ((betw N t f).length : Nat)
theorem fills_n {N : Nat} {f t : Int} (hf : 0 ≤ f ∧ f < N) (ht : 0 ≤ t ∧ t < N) : fillsN N f t = N := by
  unfold fillsN
  rw [betw_len, betw_len, betwN hf ht, betwN ht hf]
  split <;> split <;> (try split) <;> omega
theorem fills_all {N : Nat} {ps : List Cell} {x : Cell} {f t : Int} {k : Nat} (hN : N = ps.length) (hf : 0 ≤ f ∧ f < N) (ht : 0 ≤ t ∧ t < N) (hk : k < N) : getC (fillsC N ps f t x) k = x := by
  have r1 := rnd (k := k) hf (by omega)
  have r2 := rnd (k := k) ht (by omega)
  have b1 := betwN hf ht
  have b2 := betwN ht hf
  unfold fillsC
  split
  · apply fills_in hN hf ht hk
    rw [betw_len, r1, b1]
    split <;> split <;> omega
  · have hN' : N = (fillC ps (betw N f t) x).length := by rw [fill_len]; exact hN
    by_cases h : ((k : Int) - t + N) % N < ((betw N t f).length : Nat)
    · exact fills_in hN' ht hf hk h
    · rw [fills_out hN' ht hf hk h]
      apply fills_in hN hf ht hk
      rw [betw_len, r1, b1]
      rw [betw_len, r2, b2] at h
      split at h <;> split at h <;> split <;> split <;> omega
theorem fillsC_len {N : Nat} {ps : List Cell} {x : Cell} {f t : Int} (hN : N = ps.length) : N = (fillsC N ps f t x).length := by
  unfold fillsC; split <;> simp only [fill_len] <;> exact hN
theorem betw_bd {N : Nat} {f t : Int} (hf : 0 ≤ f ∧ f < N) (ht : 0 ≤ t ∧ t < N) : (betw N f t).length ≤ N := by
  have h := betwN hf ht
  rw [betw_len]
  split at h <;> omega
theorem betw_none {n t : Int} : (betw n (-1) t).length = 0 := by rw [betw_len, betw_0 (by omega)]
end Gs
