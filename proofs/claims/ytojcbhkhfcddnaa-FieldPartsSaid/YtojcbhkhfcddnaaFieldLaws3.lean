/-
  Layer 15 in plain Lean: what the law of looks asks. No program, no condition.
-/
import Derived.Test.YtojcbhkhfcddnaaFieldRef
namespace Gs
open Go
theorem fmt_iff {cs : List Cell} (h : 0 < cs.length) : 0 ≤ lookM cs 0 1 ↔ 0 < ((allM cs).length : Int) := by
  have h0 : (0 : Int) ≤ 0 ∧ (0 : Int) < cs.length := ⟨by omega, by omega⟩
  rw [allM_len]
  constructor
  · intro hl
    obtain ⟨k, hk, he, hs, _⟩ := look_some h0 (by omega : ¬ lookM cs 0 1 < 0)
    have hb : 0 ≤ lookM cs 0 1 ∧ lookM cs 0 1 < cs.length := by rw [he]; exact mod_bd _ h
    have hm : (lookM cs 0 1).toNat ∈ startsN cs := starts_mem.2 ⟨by omega, by rw [Int.toNat_of_nonneg hb.1]; exact hs⟩
    have := List.length_pos_of_mem hm
    omega
  · intro hl
    by_cases hc : lookM cs 0 1 < 0
    · have hn := look_none_all h0 hc
      have hlen : 0 < (startsN cs).length := by omega
      have hm := starts_mem.1 (List.getElem_mem hlen)
      have := hn ((startsN cs)[0]'hlen : Nat) ⟨by omega, by omega⟩
      rw [hm.2] at this
      cases this
    · omega
theorem fmt_eq {cs : List Cell} (h : 0 < cs.length) : decide (0 ≤ lookM cs 0 1) = decide (0 < ((allM cs).length : Int)) := decide_eq_decide.2 (fmt_iff h)
theorem take_get {α : Type} {l : List α} {m k : Nat} {x : α} (h : (l.take m)[k]? = some x) : l[k]? = some x := by
  rw [List.getElem?_take] at h
  split at h
  · exact h
  · cases h
theorem data_stepR {cs : List Cell} {N : Nat} {f : Fld} {k : Nat} {x : Int} {c : Cell} (hN : N = cs.length) (hx : (placesL N f)[k]? = some x) (hc : cs[x.toNat]? = some c) : (dataM cs f).take k ++ [c.b] = (dataM cs f).take (k + 1) := by
  subst hN
  have := data_step hx
  rw [getC_in (places_get hx).1 hc] at this
  exact this
theorem of_s {cs : List Cell} {i : Int} (h : ofB cs i = true) : (ofM cs i).s = befM cs i := by
  have hb : ¬ befM cs i < 0 := by simpa [ofB] using h
  unfold ofM; rw [if_neg hb]; rfl
theorem take_min {α : Type} {l : List α} {m : Int} (h : 1 ≤ m) : l.take (min m (l.length : Int)).toNat = l.take m.toNat := by
  by_cases hm : m ≤ l.length
  · rw [Int.min_eq_left hm]
  · rw [Int.min_eq_right (by omega), List.take_of_length_le (by omega), List.take_of_length_le (by omega)]
end Gs
