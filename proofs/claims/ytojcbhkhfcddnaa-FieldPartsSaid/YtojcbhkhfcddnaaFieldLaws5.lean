/-
  Layer 15 in plain Lean: what the law of parts asks. No program, no condition.
-/
import Derived.Test.YtojcbhkhfcddnaaFieldLaws3
namespace Gs
open Go Go.Sh
/-- The first attribute's place. -/
def s0 (cs : List Cell) : Int := (startsL cs).getD 0 0
def visP (cs : List Cell) (t : Nat) : Int × Value := ((s0 cs + t) % cs.length, .agg (fv (ofM cs ((s0 cs + t) % cs.length))).toArray)
/-- The places that are seen, in order, with their fields. -/
def vis (cs : List Cell) (j : Nat) : List (Int × Value) := (List.range j).map (visP cs)
theorem vis_len (cs : List Cell) (j : Nat) : (vis cs j).length = j := by simp [vis]
theorem mod_inj {N : Nat} {s : Int} {a b : Nat} (ha : a < N) (hb : b < N) (h : (s + a) % N = (s + b) % N) : a = b := by
  have hd : ((s + a) - (s + b)) % (N : Int) = 0 := Int.emod_eq_emod_iff_emod_sub_eq_zero.1 h
  have he : ((a : Int) - b) % (N : Int) = 0 := by rw [show (a : Int) - b = (s + a) - (s + b) by omega]; exact hd
  obtain ⟨q, hq⟩ := Int.dvd_of_emod_eq_zero he
  have hlt : (a : Int) - b < N := by omega
  have hgt : -(N : Int) < (a : Int) - b := by omega
  have hq0 : q = 0 := by
    rcases Int.lt_trichotomy q 0 with h2 | h2 | h2
    · have : (N : Int) * q ≤ N * (-1) := Int.mul_le_mul_of_nonneg_left (by omega) (by omega)
      omega
    · exact h2
    · have : (N : Int) * 1 ≤ N * q := Int.mul_le_mul_of_nonneg_left (by omega) (by omega)
      omega
  subst hq0
  omega
theorem vis_step {cs : List Cell} {j : Nat} {i : Int} {v : Value} (hk : i = (s0 cs + j) % cs.length) (hj : j < cs.length) (hv : v = .agg (fv (ofM cs i)).toArray) : mset (vis cs j) i v = vis cs (j + 1) := by
  have hn : mget (vis cs j) i = none := by
    unfold mget
    rw [Option.map_eq_none_iff, List.find?_eq_none]
    intro p hp
    obtain ⟨t, ht, rfl⟩ := List.mem_map.1 hp
    have ht := List.mem_range.1 ht
    intro he
    have he2 : (s0 cs + t) % cs.length = i := by simpa [visP] using he
    have := mod_inj (N := cs.length) (by omega) hj (he2.trans hk)
    omega
  rw [mset_none hn]
  unfold vis
  rw [List.range_succ, List.map_append]
  subst hv
  subst hk
  rfl
theorem vis_get {cs : List Cell} {i : Int} (h : 0 ≤ i ∧ i < cs.length) : mget (vis cs cs.length) i = some (.agg (fv (ofM cs i)).toArray) := by
  have hex : ∃ t : Nat, t < cs.length ∧ (s0 cs + t) % cs.length = i := by
    refine ⟨((i - s0 cs) % cs.length).toNat, ?_, ?_⟩
    · have := mod_bd (i - s0 cs) (N := cs.length) (by omega); omega
    · have hb := mod_bd (i - s0 cs) (N := cs.length) (by omega)
      rw [Int.toNat_of_nonneg hb.1, Int.add_emod_emod, show s0 cs + (i - s0 cs) = i by omega]
      exact Int.emod_eq_of_lt h.1 h.2
  have : ∀ l : List Nat, (∃ t ∈ l, (s0 cs + t) % cs.length = i) → mget (l.map (visP cs)) i = some (.agg (fv (ofM cs i)).toArray) := by
    intro l
    induction l with
    | nil => rintro ⟨t, ht, _⟩; cases ht
    | cons a l ih =>
      rintro ⟨t, ht, he⟩
      by_cases ha : (s0 cs + a) % cs.length = i
      · simp [mget, visP, ha]
      · have : mget ((a :: l).map (visP cs)) i = mget (l.map (visP cs)) i := by simp [mget, visP, ha]
        rw [this]
        refine ih ⟨t, ?_, he⟩
        rcases List.mem_cons.1 ht with rfl | h2
        · exact absurd he ha
        · exact h2
  obtain ⟨t, ht, he⟩ := hex
  exact this _ ⟨t, List.mem_range.2 ht, he⟩
/-- How many places are seen ahead of a field. -/
def jM (cs : List Cell) (k : Nat) : Nat := if k < (startsL cs).length then ((startsL cs).getD k 0 - s0 cs).toNat else if (startsL cs).length = 0 then 0 else cs.length
theorem jM_0 (cs : List Cell) : jM cs 0 = 0 := by
  unfold jM s0
  split
  · omega
  · rw [if_pos (by omega)]
theorem jM_none {cs : List Cell} (h : (allM cs).length = 0) (k : Nat) : jM cs k = 0 := by
  have : (startsL cs).length = 0 := by rw [startsL_len, ← allM_len]; exact h
  unfold jM
  rw [if_neg (by omega), if_pos this]
theorem jM_end {cs : List Cell} (h : 0 < (allM cs).length) : jM cs (allM cs).length = cs.length := by
  have : (startsL cs).length = (allM cs).length := by rw [startsL_len, ← allM_len]
  unfold jM
  rw [if_neg (by omega), if_neg (by omega)]
theorem part_of {cs : List Cell} {k : Nat} {x : Fld} (hx : (allM cs)[k]? = some x) : k < (startsL cs).length ∧ (startsL cs)[k]? = some x.s ∧ (startsL cs).getD k 0 = x.s ∧ 0 ≤ s0 cs ∧ s0 cs ≤ x.s ∧ x.s < cs.length := by
  obtain ⟨s, hs, he⟩ := allM_get hx
  have hxs : x.s = s := by rw [he]; rfl
  have h2 := startsL_at hs
  rw [← hxs] at h2
  have hk := (List.getElem?_eq_some_iff.1 h2).1
  have h0 : (startsL cs)[0]? = some ((startsL cs)[0]'(by omega)) := List.getElem?_eq_getElem (by omega)
  have hb0 := (startsL_bd h0).1
  have hb := (startsL_bd h2).1
  have hs0 : s0 cs = (startsL cs)[0]'(by omega) := by unfold s0; rw [List.getD_eq_getElem?_getD, h0]; rfl
  refine ⟨hk, h2, by rw [List.getD_eq_getElem?_getD, h2]; rfl, by rw [hs0]; exact hb0.1, ?_, hb.2⟩
  rw [hs0]
  by_cases hk0 : k = 0
  · subst hk0; rw [h0] at h2; exact Int.le_of_eq (Option.some.inj h2)
  · exact Int.le_of_lt (startsL_lt h0 h2 (by omega))
theorem jM_at {cs : List Cell} {k : Nat} {x : Fld} (hx : (allM cs)[k]? = some x) : (jM cs k : Int) = x.s - s0 cs := by
  obtain ⟨hk, h2, hd, h0, hle, hlt⟩ := part_of hx
  unfold jM
  rw [if_pos hk, hd]
  omega
theorem jM_step {cs : List Cell} {k : Nat} {x : Fld} (hx : (allM cs)[k]? = some x) : jM cs k + 1 + (placesL cs.length x).length = jM cs (k + 1) := by
  obtain ⟨hk, h2, hd, h0, hle, hlt⟩ := part_of hx
  have hp := all_places hx
  have hl := len_next h2
  have hxl : x.l = lenM cs x.s := by
    have := (all_in hx).2.2.2
    exact congrArg Fld.l this
  have hj := jM_at hx
  unfold nextL at hl
  by_cases hk1 : k + 1 < (startsL cs).length
  · rw [if_pos hk1] at hl
    have : jM cs (k + 1) = ((startsL cs).getD (k + 1) 0 - s0 cs).toNat := by unfold jM; rw [if_pos hk1]
    have hlt : x.s < (startsL cs).getD (k + 1) 0 := by
      have h3 : (startsL cs)[k + 1]? = some ((startsL cs)[k + 1]'hk1) := List.getElem?_eq_getElem hk1
      rw [List.getD_eq_getElem?_getD, h3]
      exact startsL_lt h2 h3 (by omega)
    omega
  · rw [if_neg hk1] at hl
    have : jM cs (k + 1) = cs.length := by unfold jM; rw [if_neg hk1, if_neg (by omega)]
    have he : s0 cs = (startsL cs).getD 0 0 := rfl
    omega
theorem jM_le (cs : List Cell) (k : Nat) : jM cs k ≤ cs.length := by
  unfold jM
  split
  · rename_i h
    have h1 : (startsL cs)[k]? = some ((startsL cs)[k]'h) := List.getElem?_eq_getElem h
    have h0 : (startsL cs)[0]? = some ((startsL cs)[0]'(by omega)) := List.getElem?_eq_getElem (by omega)
    have hb := (startsL_bd h1).1
    have hb0 := (startsL_bd h0).1
    have hs0 : s0 cs = (startsL cs)[0]'(by omega) := by unfold s0; rw [List.getD_eq_getElem?_getD, h0]; rfl
    have hd : (startsL cs).getD k 0 = (startsL cs)[k]'h := by rw [List.getD_eq_getElem?_getD, h1]; rfl
    omega
  · split
    · omega
    · exact Nat.le_refl _
theorem partA {cs : List Cell} {k : Nat} {x : Fld} (hx : (allM cs)[k]? = some x) : mset (vis cs (jM cs k)) x.s (.agg (fv x).toArray) = vis cs (jM cs k + 1) := by
  obtain ⟨hk, h2, hd, h0, hle, hlt⟩ := part_of hx
  have hj := jM_at hx
  have hs := jM_step hx
  have hb := jM_le cs (k + 1)
  refine vis_step ?_ (by omega) (by rw [(of_hit1 hx rfl).1])
  rw [hj, show s0 cs + (x.s - s0 cs) = x.s by omega]
  exact (Int.emod_eq_of_lt (by omega) hlt).symm
theorem partB {cs : List Cell} {N k i : Nat} {x : Fld} {y : Int} (hN : N = cs.length) (hx : (allM cs)[k]? = some x) (hy : (placesL N x)[i]? = some y) : mset (vis cs (jM cs k + 1 + i)) y (.agg (fv x).toArray) = vis cs (jM cs k + 1 + (i + 1)) := by
  subst hN
  obtain ⟨hk, h2, hd, h0, hle, hlt⟩ := part_of hx
  have hj := jM_at hx
  have hs := jM_step hx
  have hb := jM_le cs (k + 1)
  have hi := (List.getElem?_eq_some_iff.1 hy).1
  refine vis_step ?_ (by omega) (by rw [(of_hit2 hx hy rfl).1])
  rw [places_at hi] at hy
  rw [← Option.some.inj hy]
  congr 1
  omega
theorem home_nof {cs : List Cell} (h : (allM cs).length = 0) : homeM cs = 0 := by
  unfold homeM
  rw [List.length_eq_zero_iff.1 h]
  rfl
theorem ofB_fm {cs : List Cell} (h : 0 < (allM cs).length) {i : Int} (h0 : 0 ≤ i ∧ i < cs.length) : ofB cs i = true := by rw [ofB_eq h0, decide_eq_true (by omega)]
theorem open_home {cs : List Cell} (h : ¬ homeM cs = 0) : openM cs (homeM cs) = true := by
  unfold homeM at h
  cases hf : (allM cs).find? homeF with
  | none => rw [hf] at h; exact absurd rfl h
  | some f =>
    have hm : homeM cs = (f.s + 1) % cs.length := by unfold homeM; rw [hf]
    rw [hm]
    obtain ⟨k, hk⟩ := List.getElem?_of_mem (List.mem_of_find?_eq_some hf)
    have hp := List.find?_some hf
    obtain ⟨hs, hl0, hl, he⟩ := all_in hk
    have hst := (walk0 hk).2
    unfold homeF at hp
    simp only [Bool.and_eq_true, decide_eq_true_eq] at hp
    have hfl : f.l = lenM cs f.s := congrArg Fld.l he
    have hb : befM cs ((f.s + (1 : Nat)) % cs.length) = f.s := bef_in hs hst (by omega)
    have hb' : befM cs ((f.s + 1) % cs.length) = f.s := hb
    have hne : f.s ≠ (f.s + 1) % cs.length := by
      intro e
      by_cases h2 : f.s + 1 < cs.length
      · rw [Int.emod_eq_of_lt (by omega) h2] at e; omega
      · rw [show f.s + 1 = (cs.length : Int) by omega, Int.emod_self] at e; omega
    unfold openM
    rw [hb', if_neg (by omega), decide_eq_true hne, ← he]
    simpa using hp.2
end Gs
namespace Gs
theorem fmt_no {cs : List Cell} (h : 0 < cs.length) (hn : ¬ 0 ≤ lookM cs 0 1) : (allM cs).length = 0 := by
  exact Nat.eq_zero_of_not_pos fun h2 => hn ((fmt_iff h).2 (by omega))
theorem fmt_yes {cs : List Cell} (h : 0 < cs.length) (hn : 0 ≤ lookM cs 0 1) : 0 < (allM cs).length := by
  have := (fmt_iff h).1 hn
  omega
end Gs
