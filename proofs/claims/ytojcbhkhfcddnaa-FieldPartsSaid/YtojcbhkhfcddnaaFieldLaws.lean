/-
  Layer 15 in plain Lean: what its laws say. No program, no condition.
-/
import Derived.Test.YtojcbhkhfcddnaaFieldText
namespace Gs
open Go
theorem allM_get {cs : List Cell} {k : Nat} {x : Fld} (h : (allM cs)[k]? = some x) : ∃ s, (startsN cs)[k]? = some s ∧ x = atM cs s := by
  have hk := (List.getElem?_eq_some_iff.1 h).1
  rw [allM_len] at hk
  exact ⟨_, List.getElem?_eq_getElem hk, by have := allM_at (List.getElem?_eq_getElem hk); rw [h] at this; exact Option.some.inj this⟩
theorem start_in {cs : List Cell} {k s : Nat} (h : (startsN cs)[k]? = some s) : (0 ≤ (s : Int) ∧ (s : Int) < cs.length) ∧ stB cs s = true := by
  have := starts_mem.1 (List.mem_of_getElem? h)
  exact ⟨by omega, this.2⟩
/-- No attribute lies between one in the list and the next one. -/
theorem starts_none {cs : List Cell} {i s : Nat} (hs : (startsN cs)[i]? = some s) {t : Nat} (ht : t < cs.length) (hst : stB cs t = true) : (t < s → ∃ j, j < i ∧ (startsN cs)[j]? = some t) ∧ (s < t → ∃ j, i < j ∧ (startsN cs)[j]? = some t) := by
  obtain ⟨j, hj, he⟩ := List.getElem_of_mem (starts_mem.2 ⟨ht, hst⟩)
  obtain ⟨hi, hs2⟩ := List.getElem?_eq_some_iff.1 hs
  have hjt : (startsN cs)[j]? = some t := by rw [List.getElem?_eq_getElem hj, he]
  constructor
  · intro h
    refine ⟨j, ?_, hjt⟩
    rcases Nat.lt_trichotomy j i with h1 | h1 | h1
    · exact h1
    · subst h1; omega
    · have := starts_lt h1 hj; omega
  · intro h
    refine ⟨j, ?_, hjt⟩
    rcases Nat.lt_trichotomy j i with h1 | h1 | h1
    · have := starts_lt h1 hi; omega
    · subst h1; omega
    · exact h1
theorem next_start {cs : List Cell} {i s t : Nat} (hs : (startsN cs)[i]? = some s) (ht : (startsN cs)[(i + 1) % (startsN cs).length]? = some t) : aftM cs s = t := by
  obtain ⟨h0, hst⟩ := start_in hs
  obtain ⟨h0', hst'⟩ := start_in ht
  obtain ⟨hi, he⟩ := List.getElem?_eq_some_iff.1 hs
  obtain ⟨hi', he'⟩ := List.getElem?_eq_some_iff.1 ht
  obtain ⟨L, h1, h2, h3, h4, h5⟩ := len_eq h0 hst
  rw [h3]
  have hN : 0 < cs.length := by omega
  -- where the next one lies, counted from here
  have key : ∀ j' : Nat, (j' : Int) < cs.length → ((s : Int) + 1 + j') % cs.length = t → (∀ j : Nat, j < j' → stB cs (((s : Int) + 1 + j) % cs.length) = false) → ((s : Int) + 1 + L) % cs.length = t := by
    intro j' hj' hjt hnone
    have hL : L = j' := by
      rcases Nat.lt_trichotomy L j' with h | h | h
      · have := hnone L h; rw [h4] at this; cases this
      · exact h
      · have := h5 j' h; rw [hjt, hst'] at this; cases this
    rw [hL]; exact hjt
  by_cases hlast : i + 1 < (startsN cs).length
  · have hm : (i + 1) % (startsN cs).length = i + 1 := Nat.mod_eq_of_lt hlast
    rw [hm] at ht
    have hlt : s < t := by
      obtain ⟨_, he2⟩ := List.getElem?_eq_some_iff.1 ht
      have := starts_lt (cs := cs) (i := i) (j := i + 1) (by omega) hlast
      omega
    refine key (t - s - 1) (by omega) (by rw [show (s : Int) + 1 + ((t - s - 1 : Nat) : Int) = t by omega]; exact Int.emod_eq_of_lt h0'.1 h0'.2) (fun j hj => ?_)
    rw [Int.emod_eq_of_lt (by omega) (by omega)]
    cases hb : stB cs ((s : Int) + 1 + j) with
    | false => rfl
    | true =>
      exfalso
      have hb' : stB cs ((s + 1 + j : Nat) : Int) = true := by rw [← hb]; congr 1
      obtain ⟨j2, hj2, hj3⟩ := (starts_none hs (t := s + 1 + j) (by omega) hb').2 (by omega)
      obtain ⟨j4, hj4, hj5⟩ := (starts_none ht (t := s + 1 + j) (by omega) hb').1 (by omega)
      obtain ⟨a1, a2⟩ := List.getElem?_eq_some_iff.1 hj3
      obtain ⟨b1, b2⟩ := List.getElem?_eq_some_iff.1 hj5
      have : j2 = j4 := by
        rcases Nat.lt_trichotomy j2 j4 with h | h | h
        · have := starts_lt h b1; omega
        · exact h
        · have := starts_lt h a1; omega
      omega
  · have hlen : i + 1 = (startsN cs).length := by omega
    have hm : (i + 1) % (startsN cs).length = 0 := by rw [hlen]; exact Nat.mod_self _
    rw [hm] at ht
    have hge : t ≤ s := by
      rcases Nat.eq_zero_or_pos i with h | h
      · subst h; rw [hs] at ht; have := Option.some.inj ht; omega
      · obtain ⟨a1, a2⟩ := List.getElem?_eq_some_iff.1 ht
        have := starts_lt (cs := cs) (i := 0) (j := i) h hi; omega
    refine key (cs.length - s - 1 + t) (by omega) (by rw [show (s : Int) + 1 + ((cs.length - s - 1 + t : Nat) : Int) = t + cs.length by omega, Int.add_emod_right]; exact Int.emod_eq_of_lt h0'.1 h0'.2) (fun j hj => ?_)
    cases hb : stB cs (((s : Int) + 1 + j) % cs.length) with
    | false => rfl
    | true =>
      exfalso
      by_cases hw : (s : Int) + 1 + j < cs.length
      · rw [Int.emod_eq_of_lt (by omega) hw] at hb
        have hb' : stB cs ((s + 1 + j : Nat) : Int) = true := by rw [← hb]; congr 1
        obtain ⟨j2, hj2, hj3⟩ := (starts_none hs (t := s + 1 + j) (by omega) hb').2 (by omega)
        have := (List.getElem?_eq_some_iff.1 hj3).1
        omega
      · have e : ((s : Int) + 1 + j) % cs.length = ((s + 1 + j - cs.length : Nat) : Int) := by
          rw [← Int.sub_emod_right, show (s : Int) + 1 + j - cs.length = ((s + 1 + j - cs.length : Nat) : Int) by omega]
          exact Int.emod_eq_of_lt (by omega) (by omega)
        rw [e] at hb
        obtain ⟨j2, hj2, hj3⟩ := (starts_none ht (t := s + 1 + j - cs.length) (by omega) hb).1 (by omega)
        omega
/-! ### From attribute to attribute -/
theorem walk1 {cs : List Cell} {k : Nat} {x y : Fld} (hx : (allM cs)[k]? = some x) (hy : (allM cs)[(((k : Int) + 1) % ((allM cs).length : Int)).toNat]? = some y) : aftM cs x.s = y.s := by
  obtain ⟨s, hs, rfl⟩ := allM_get hx
  obtain ⟨t, ht, rfl⟩ := allM_get hy
  have hk := (List.getElem?_eq_some_iff.1 hx).1
  have e : (((k : Int) + 1) % ((allM cs).length : Int)).toNat = (k + 1) % (startsN cs).length := by
    rw [allM_len]
    have : (((k + 1) % (startsN cs).length : Nat) : Int) = ((k : Int) + 1) % ((startsN cs).length : Int) := by rw [Int.natCast_emod]; rfl
    omega
  rw [e] at ht
  exact next_start hs ht
theorem walk0 {cs : List Cell} {k : Nat} {x : Fld} (hx : (allM cs)[k]? = some x) : (0 ≤ x.s ∧ x.s < cs.length) ∧ stB cs x.s = true := by
  obtain ⟨s, hs, rfl⟩ := allM_get hx
  exact start_in hs
theorem walk2 {cs : List Cell} {k : Nat} {x : Fld} (hx : (allM cs)[k]? = some x) : befM cs x.s = x.s := bef_self (walk0 hx).1 (walk0 hx).2
theorem walk3 {cs : List Cell} {k : Nat} {x : Fld} (hx : (allM cs)[k]? = some x) : openM cs x.s = false := by
  have h := walk0 hx
  unfold openM
  rw [walk2 hx, if_neg (by omega), decide_eq_false (fun h => h rfl)]; rfl
theorem ofB_eq {cs : List Cell} {i : Int} (h0 : 0 ≤ i ∧ i < cs.length) : ofB cs i = decide (((allM cs).length : Int) > 0) := by
  unfold ofB
  rw [allM_len]
  by_cases h : befM cs i < 0
  · have hn : startsN cs = [] := by
      rw [List.eq_nil_iff_forall_not_mem]
      intro s hs
      have h1 := starts_mem.1 hs
      have := look_none_allB h0 h s ⟨by omega, by omega⟩
      rw [h1.2] at this; cases this
    rw [decide_eq_false (by omega), decide_eq_false (by rw [hn]; simp)]
  · have h1 := bef_ex h0 h
    have hm : (befM cs i).toNat ∈ startsN cs := starts_mem.2 ⟨by omega, by rw [Int.toNat_of_nonneg h1.1]; exact h1.2.2.1⟩
    have := List.length_pos_of_mem hm
    rw [decide_eq_true h, decide_eq_true (by omega)]
theorem bef_m1 {cs : List Cell} {i : Int} (h : ofB cs i = false) : befM cs i = -1 := by
  have h2 : befM cs i < 0 := by simpa [ofB] using h
  exact look_neg h2
theorem open_T {cs : List Cell} {i : Int} (h0 : 0 ≤ i ∧ i < cs.length) (h : ofB cs i = false) : openM cs i = true := by rw [open_no h, decide_eq_true h0]
theorem walk5 {cs : List Cell} {i : Int} (h : ofB cs i = true) (h2 : i ≠ (ofM cs i).s) : openM cs i = decide ((ofM cs i).a / 32 % 2 * 32 = 0) := by
  rw [open_yes h (Ne.symm h2)]
  by_cases hp : (ofM cs i).a / 32 % 2 = 1
  · simp [hp]
  · have : (ofM cs i).a / 32 % 2 = 0 := by omega
    simp [this]
theorem walk6 {cs : List Cell} {i : Int} (h : ofB cs i = true) (h2 : ¬ i ≠ (ofM cs i).s) : openM cs i = false := open_self h (fun h3 => h2 (Ne.symm h3))
end Gs
