/-
  3 texts in one: what each theorem says stands at it. No condition but the ones that each states.
-/
import Derived.Test.YtjdoakbadehicaaGreatDoorFieldModel
import Derived.Test.YtjdoakbadehicaaGreatDoorPlaneLaws
import Derived.Test.YtjdoakbadehicaaGreatDoorCodeRunes
namespace Gs
open Go
theorem textM_len (page : Int) (cs : List Cell) (f : Fld) : (textM page cs f).length = (placesL cs.length f).length := by
  unfold textM; split <;> simp
theorem textM_3 {page : Int} {cs : List Cell} {f : Fld} (h : f.a / 4 % 4 = 3) : textM page cs f = List.replicate (placesL cs.length f).length 32 := by unfold textM shownN; rw [if_pos h]
theorem textM_n {page : Int} {cs : List Cell} {f : Fld} (h : ¬ f.a / 4 % 4 = 3) : textM page cs f = (placesL cs.length f).map fun i => sign1 page (getC cs i) := by unfold textM shownN; rw [if_neg h]
theorem text_1 {page : Int} {cs : List Cell} {x : Int} (h : 0 ≤ x ∧ x < cs.length) : textOf page cs x 1 = Utf8.encode (sign1 page (getC cs x)) := by
  rw [text_in h]
  have e : (min (max 1 0) (cs.length : Int)).toNat = 0 + 1 := by omega
  have ec : cellAt cs x 0 = getC cs x := by
    unfold cellAt getC
    rw [if_pos h, Int.natCast_zero, Int.add_zero, Int.emod_eq_of_lt h.1 h.2]
  rw [e, sgl_text, ec]
  simp [sgl, runesBytes]
theorem textM_step {page : Int} {cs : List Cell} {f : Fld} {k : Nat} {x : Int} (hx : (placesL cs.length f)[k]? = some x) (h : ¬ f.a / 4 % 4 = 3) : (runesBytes ((textM page cs f).take k)).data.toList ++ (textOf page cs x 1).data.toList = (runesBytes ((textM page cs f).take (k + 1))).data.toList := by
  have h2 : (textM page cs f)[k]? = some (sign1 page (getC cs x)) := by rw [textM_n h, List.getElem?_map, hx]; rfl
  rw [← take_step h2, runes_snoc, text_1 (places_get hx)]
  simp
theorem text_take_size {page : Int} {cs : List Cell} {f : Fld} {k : Nat} (hk : k ≤ (placesL cs.length f).length) (h : cs.length ≤ 4096) : (runesBytes ((textM page cs f).take k)).data.toList.length ≤ 16384 := by
  have := runesBytes_size_le ((textM page cs f).take k)
  rw [List.length_take, textM_len] at this
  have h2 := places_le cs.length f
  have e : (runesBytes ((textM page cs f).take k)).data.toList.length = (runesBytes ((textM page cs f).take k)).size := by rw [Array.length_toList]; rfl
  omega
theorem text_done {page : Int} {cs : List Cell} {f : Fld} : (⟨(runesBytes ((textM page cs f).take (placesL cs.length f).length)).data.toList.toArray⟩ : ByteArray) = runesBytes (textM page cs f) := by
  rw [List.take_of_length_le (by rw [textM_len]; exact Nat.le_refl _), Array.toArray_toList]
end Gs
namespace Gs
open Go
theorem allM_get {cs : List Cell} {k : Nat} {x : Fld} (h : (allM cs)[k]? = some x) : ∃ s, (startsN cs)[k]? = some s ∧ x = atM cs s := by
  have hk := (List.getElem?_eq_some_iff.1 h).1
  rw [allM_len] at hk
  exact ⟨_, List.getElem?_eq_getElem hk, by have := allM_at (List.getElem?_eq_getElem hk); rw [h] at this; exact Option.some.inj this⟩
theorem start_in {cs : List Cell} {k s : Nat} (h : (startsN cs)[k]? = some s) : (0 ≤ (s : Int) ∧ (s : Int) < cs.length) ∧ stB cs s = true := by
  have := starts_mem.1 (List.mem_of_getElem? h)
  exact ⟨by omega, this.2⟩
/-- No attribute lies between one in the list and the next one. -/
theorem starts_none {cs : List Cell} {i s : Nat} (hs : (startsN cs)[i]? = some s) {t : Nat} (ht : t < cs.length) (hst : stB cs t = true) : (t < s → ∃ j, j < i ∧ (startsN cs)[j]? = some t) ∧ (s < t → ∃ j, i < j ∧ (startsN cs)[j]? = some t) := by
  obtain ⟨j, hj, he⟩ := List.getElem_of_mem (starts_mem.2 ⟨ht, hst⟩)
  obtain ⟨hi, hs2⟩ := List.getElem?_eq_some_iff.1 hs
  have hjt : (startsN cs)[j]? = some t := by rw [List.getElem?_eq_getElem hj, he]
  constructor
  · intro h
    refine ⟨j, ?_, hjt⟩
    rcases Nat.lt_trichotomy j i with h1 | h1 | h1
    · exact h1
    · subst h1; omega
    · have := starts_lt h1 hj; omega
  · intro h
    refine ⟨j, ?_, hjt⟩
    rcases Nat.lt_trichotomy j i with h1 | h1 | h1
    · have := starts_lt h1 hi; omega
    · subst h1; omega
    · exact h1
theorem next_start {cs : List Cell} {i s t : Nat} (hs : (startsN cs)[i]? = some s) (ht : (startsN cs)[(i + 1) % (startsN cs).length]? = some t) : aftM cs s = t := by
  obtain ⟨h0, hst⟩ := start_in hs
  obtain ⟨h0', hst'⟩ := start_in ht
  obtain ⟨hi, he⟩ := List.getElem?_eq_some_iff.1 hs
  obtain ⟨hi', he'⟩ := List.getElem?_eq_some_iff.1 ht
  obtain ⟨L, h1, h2, h3, h4, h5⟩ := len_eq h0 hst
  rw [h3]
  have hN : 0 < cs.length := by omega
  -- where the next one lies, counted from here
  have key : ∀ j' : Nat, (j' : Int) < cs.length → ((s : Int) + 1 + j') % cs.length = t → (∀ j : Nat, j < j' → stB cs (((s : Int) + 1 + j) % cs.length) = false) → ((s : Int) + 1 + L) % cs.length = t := by
    intro j' hj' hjt hnone
    have hL : L = j' := by
      rcases Nat.lt_trichotomy L j' with h | h | h
      · have := hnone L h; rw [h4] at this; cases this
      · exact h
      · have := h5 j' h; rw [hjt, hst'] at this; cases this
    rw [hL]; exact hjt
  by_cases hlast : i + 1 < (startsN cs).length
  · have hm : (i + 1) % (startsN cs).length = i + 1 := Nat.mod_eq_of_lt hlast
    rw [hm] at ht
    have hlt : s < t := by
      obtain ⟨_, he2⟩ := List.getElem?_eq_some_iff.1 ht
      have := starts_lt (cs := cs) (i := i) (j := i + 1) (by omega) hlast
      omega
    refine key (t - s - 1) (by omega) (by rw [show (s : Int) + 1 + ((t - s - 1 : Nat) : Int) = t by omega]; exact Int.emod_eq_of_lt h0'.1 h0'.2) (fun j hj => ?_)
    rw [Int.emod_eq_of_lt (by omega) (by omega)]
    cases hb : stB cs ((s : Int) + 1 + j) with
    | false => rfl
    | true =>
      exfalso
      have hb' : stB cs ((s + 1 + j : Nat) : Int) = true := by rw [← hb]; congr 1
      obtain ⟨j2, hj2, hj3⟩ := (starts_none hs (t := s + 1 + j) (by omega) hb').2 (by omega)
      obtain ⟨j4, hj4, hj5⟩ := (starts_none ht (t := s + 1 + j) (by omega) hb').1 (by omega)
      obtain ⟨a1, a2⟩ := List.getElem?_eq_some_iff.1 hj3
      obtain ⟨b1, b2⟩ := List.getElem?_eq_some_iff.1 hj5
      have : j2 = j4 := by
        rcases Nat.lt_trichotomy j2 j4 with h | h | h
        · have := starts_lt h b1; omega
        · exact h
        · have := starts_lt h a1; omega
      omega
  · have hlen : i + 1 = (startsN cs).length := by omega
    have hm : (i + 1) % (startsN cs).length = 0 := by rw [hlen]; exact Nat.mod_self _
    rw [hm] at ht
    have hge : t ≤ s := by
      rcases Nat.eq_zero_or_pos i with h | h
      · subst h; rw [hs] at ht; have := Option.some.inj ht; omega
      · obtain ⟨a1, a2⟩ := List.getElem?_eq_some_iff.1 ht
        have := starts_lt (cs := cs) (i := 0) (j := i) h hi; omega
    refine key (cs.length - s - 1 + t) (by omega) (by rw [show (s : Int) + 1 + ((cs.length - s - 1 + t : Nat) : Int) = t + cs.length by omega, Int.add_emod_right]; exact Int.emod_eq_of_lt h0'.1 h0'.2) (fun j hj => ?_)
    cases hb : stB cs (((s : Int) + 1 + j) % cs.length) with
    | false => rfl
    | true =>
      exfalso
      by_cases hw : (s : Int) + 1 + j < cs.length
      · rw [Int.emod_eq_of_lt (by omega) hw] at hb
        have hb' : stB cs ((s + 1 + j : Nat) : Int) = true := by rw [← hb]; congr 1
        obtain ⟨j2, hj2, hj3⟩ := (starts_none hs (t := s + 1 + j) (by omega) hb').2 (by omega)
        have := (List.getElem?_eq_some_iff.1 hj3).1
        omega
      · have e : ((s : Int) + 1 + j) % cs.length = ((s + 1 + j - cs.length : Nat) : Int) := by
          rw [← Int.sub_emod_right, show (s : Int) + 1 + j - cs.length = ((s + 1 + j - cs.length : Nat) : Int) by omega]
          exact Int.emod_eq_of_lt (by omega) (by omega)
        rw [e] at hb
        obtain ⟨j2, hj2, hj3⟩ := (starts_none ht (t := s + 1 + j - cs.length) (by omega) hb).1 (by omega)
        omega
/-! ### From attribute to attribute -/
theorem walk1 {cs : List Cell} {k : Nat} {x y : Fld} (hx : (allM cs)[k]? = some x) (hy : (allM cs)[(((k : Int) + 1) % ((allM cs).length : Int)).toNat]? = some y) : aftM cs x.s = y.s := by
  obtain ⟨s, hs, rfl⟩ := allM_get hx
  obtain ⟨t, ht, rfl⟩ := allM_get hy
  have hk := (List.getElem?_eq_some_iff.1 hx).1
  have e : (((k : Int) + 1) % ((allM cs).length : Int)).toNat = (k + 1) % (startsN cs).length := by
    rw [allM_len]
    have : (((k + 1) % (startsN cs).length : Nat) : Int) = ((k : Int) + 1) % ((startsN cs).length : Int) := by rw [Int.natCast_emod]; rfl
    omega
  rw [e] at ht
  exact next_start hs ht
theorem walk0 {cs : List Cell} {k : Nat} {x : Fld} (hx : (allM cs)[k]? = some x) : (0 ≤ x.s ∧ x.s < cs.length) ∧ stB cs x.s = true := by
  obtain ⟨s, hs, rfl⟩ := allM_get hx
  exact start_in hs
theorem walk2 {cs : List Cell} {k : Nat} {x : Fld} (hx : (allM cs)[k]? = some x) : befM cs x.s = x.s := bef_self (walk0 hx).1 (walk0 hx).2
theorem walk3 {cs : List Cell} {k : Nat} {x : Fld} (hx : (allM cs)[k]? = some x) : openM cs x.s = false := by
  have h := walk0 hx
  unfold openM
  rw [walk2 hx, if_neg (by omega), decide_eq_false (fun h => h rfl)]; rfl
theorem ofB_eq {cs : List Cell} {i : Int} (h0 : 0 ≤ i ∧ i < cs.length) : ofB cs i = decide (((allM cs).length : Int) > 0) := by
  unfold ofB
  rw [allM_len]
  by_cases h : befM cs i < 0
  · have hn : startsN cs = [] := by
      rw [List.eq_nil_iff_forall_not_mem]
      intro s hs
      have h1 := starts_mem.1 hs
      have := look_none_allB h0 h s ⟨by omega, by omega⟩
      rw [h1.2] at this; cases this
    rw [decide_eq_false (by omega), decide_eq_false (by rw [hn]; simp)]
  · have h1 := bef_ex h0 h
    have hm : (befM cs i).toNat ∈ startsN cs := starts_mem.2 ⟨by omega, by rw [Int.toNat_of_nonneg h1.1]; exact h1.2.2.1⟩
    have := List.length_pos_of_mem hm
    rw [decide_eq_true h, decide_eq_true (by omega)]
theorem bef_m1 {cs : List Cell} {i : Int} (h : ofB cs i = false) : befM cs i = -1 := by
  have h2 : befM cs i < 0 := by simpa [ofB] using h
  exact look_neg h2
theorem open_T {cs : List Cell} {i : Int} (h0 : 0 ≤ i ∧ i < cs.length) (h : ofB cs i = false) : openM cs i = true := by rw [open_no h, decide_eq_true h0]
theorem walk5 {cs : List Cell} {i : Int} (h : ofB cs i = true) (h2 : i ≠ (ofM cs i).s) : openM cs i = decide ((ofM cs i).a / 32 % 2 * 32 = 0) := by
  rw [open_yes h (Ne.symm h2)]
  by_cases hp : (ofM cs i).a / 32 % 2 = 1
  · simp [hp]
  · have : (ofM cs i).a / 32 % 2 = 0 := by omega
    simp [this]
theorem walk6 {cs : List Cell} {i : Int} (h : ofB cs i = true) (h2 : ¬ i ≠ (ofM cs i).s) : openM cs i = false := open_self h (fun h3 => h2 (Ne.symm h3))
end Gs
namespace Gs
open Go
theorem all_in {cs : List Cell} {k : Nat} {x : Fld} (hx : (allM cs)[k]? = some x) : (0 ≤ x.s ∧ x.s < cs.length) ∧ 0 ≤ x.l ∧ x.l < cs.length ∧ x = atM cs x.s := by
  obtain ⟨s, hs, rfl⟩ := allM_get hx
  obtain ⟨h0, hst⟩ := start_in hs
  obtain ⟨L, h1, h2, _⟩ := len_eq h0 hst
  refine ⟨h0, ?_, ?_, rfl⟩
  · show 0 ≤ lenM cs s; omega
  · show lenM cs s < cs.length; omega
theorem all_a {cs : List Cell} (hw : Cws cs) {k : Nat} {x : Fld} (hx : (allM cs)[k]? = some x) : 0 ≤ x.a ∧ x.a ≤ 255 := by
  obtain ⟨s, hs, rfl⟩ := allM_get hx
  exact at_a hw s
theorem all_places {cs : List Cell} {k : Nat} {x : Fld} (hx : (allM cs)[k]? = some x) : ((placesL cs.length x).length : Int) = x.l := by
  have h := all_in hx
  rw [places_len h.1]; omega
theorem all_data {cs : List Cell} {k : Nat} {x : Fld} (hx : (allM cs)[k]? = some x) : ((dataM cs x).length : Int) = x.l := by rw [data_len]; exact all_places hx
theorem text_mid {page : Int} {cs : List Cell} {k : Nat} {x : Fld} (hx : (allM cs)[k]? = some x) (h : ¬ x.a / 4 % 4 = 3) : textOf page cs ((x.s + 1) % cs.length) x.l = runesBytes (textM page cs x) := by
  obtain ⟨h0, hl0, hl1, _⟩ := all_in hx
  have hN : 0 < cs.length := by omega
  rw [text_in (mod_bd _ hN), textM_n h]
  congr 1
  have e : (min (max x.l 0) (cs.length : Int)).toNat = x.l.toNat := by omega
  rw [e]
  unfold placesL sgl
  rw [if_pos h0, e, List.map_map]
  apply List.map_congr_left
  intro i _
  simp only [Function.comp]
  congr 1
  have hm := mod_bd (x.s + (i + 1 : Nat)) hN
  unfold cellAt getC
  rw [if_pos hm]
  congr 2
  rw [Int.emod_add_emod]
  congr 1
  omega
theorem text_blank {page : Int} {cs : List Cell} {k n : Nat} {x : Fld} (hx : (allM cs)[k]? = some x) (h : x.a / 4 % 4 = 3) (hn : (n : Int) = x.l) : runesBytes (List.replicate n 32) = runesBytes (textM page cs x) := by
  rw [textM_3 h]
  have := all_places hx
  have e : n = (placesL cs.length x).length := by omega
  rw [e]
theorem blank_step (k : Nat) : runesBytes (List.replicate k 32) ++ ⟨#[32]⟩ = runesBytes (List.replicate (k + 1) 32) := by rw [List.replicate_succ', runes_snoc, enc32]
theorem blank_size (k : Nat) : (runesBytes (List.replicate k 32)).size ≤ 4 * k := by
  have := runesBytes_size_le (List.replicate k 32)
  rwa [List.length_replicate] at this
end Gs
