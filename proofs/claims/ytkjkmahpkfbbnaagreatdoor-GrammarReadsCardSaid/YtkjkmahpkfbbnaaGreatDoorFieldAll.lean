/-
  4 texts in one: what each theorem says stands at it. No condition but the ones that each states.
-/
import Derived.Test.YtkjkmahpkfbbnaaGreatDoorFieldModel
import Derived.Test.YtkjkmahpkfbbnaaGreatDoorPlaneLaws
import Derived.Test.YtkjkmahpkfbbnaaGreatDoorCodeRunes
namespace Gs
open Go
theorem textM_len (page : Int) (cs : List Cell) (f : Fld) : (textM page cs f).length = (placesL cs.length f).length := by
  unfold textM; split <;> simp
theorem textM_3 {page : Int} {cs : List Cell} {f : Fld} (h : f.a / 4 % 4 = 3) : textM page cs f = List.replicate (placesL cs.length f).length 32 := by unfold textM shownN; rw [if_pos h]
theorem textM_n {page : Int} {cs : List Cell} {f : Fld} (h : ¬ f.a / 4 % 4 = 3) : textM page cs f = (placesL cs.length f).map fun i => sign1 page (getC cs i) := by unfold textM shownN; rw [if_neg h]
theorem text_1 {page : Int} {cs : List Cell} {x : Int} (h : 0 ≤ x ∧ x < cs.length) : textOf page cs x 1 = Utf8.encode (sign1 page (getC cs x)) := by
  rw [text_in h]
  have e : (min (max 1 0) (cs.length : Int)).toNat = 0 + 1 := by omega
  have ec : cellAt cs x 0 = getC cs x := by
    unfold cellAt getC
    rw [if_pos h, Int.natCast_zero, Int.add_zero, Int.emod_eq_of_lt h.1 h.2]
  rw [e, sgl_text, ec]
  simp [sgl, runesBytes]
theorem textM_step {page : Int} {cs : List Cell} {f : Fld} {k : Nat} {x : Int} (hx : (placesL cs.length f)[k]? = some x) (h : ¬ f.a / 4 % 4 = 3) : (runesBytes ((textM page cs f).take k)).data.toList ++ (textOf page cs x 1).data.toList = (runesBytes ((textM page cs f).take (k + 1))).data.toList := by
  have h2 : (textM page cs f)[k]? = some (sign1 page (getC cs x)) := by rw [textM_n h, List.getElem?_map, hx]; rfl
  rw [← take_step h2, runes_snoc, text_1 (places_get hx)]
  simp
theorem text_take_size {page : Int} {cs : List Cell} {f : Fld} {k : Nat} (hk : k ≤ (placesL cs.length f).length) (h : cs.length ≤ 4096) : (runesBytes ((textM page cs f).take k)).data.toList.length ≤ 16384 := by
  have := runesBytes_size_le ((textM page cs f).take k)
  rw [List.length_take, textM_len] at this
  have h2 := places_le cs.length f
  have e : (runesBytes ((textM page cs f).take k)).data.toList.length = (runesBytes ((textM page cs f).take k)).size := by rw [Array.length_toList]; rfl
  omega
theorem text_done {page : Int} {cs : List Cell} {f : Fld} : (⟨(runesBytes ((textM page cs f).take (placesL cs.length f).length)).data.toList.toArray⟩ : ByteArray) = runesBytes (textM page cs f) := by
  rw [List.take_of_length_le (by rw [textM_len]; exact Nat.le_refl _), Array.toArray_toList]
end Gs
namespace Gs
open Go
theorem allM_get {cs : List Cell} {k : Nat} {x : Fld} (h : (allM cs)[k]? = some x) : ∃ s, (startsN cs)[k]? = some s ∧ x = atM cs s := by
  have hk := (List.getElem?_eq_some_iff.1 h).1
  rw [allM_len] at hk
  exact ⟨_, List.getElem?_eq_getElem hk, by have := allM_at (List.getElem?_eq_getElem hk); rw [h] at this; exact Option.some.inj this⟩
theorem start_in {cs : List Cell} {k s : Nat} (h : (startsN cs)[k]? = some s) : (0 ≤ (s : Int) ∧ (s : Int) < cs.length) ∧ stB cs s = true := by
  have := starts_mem.1 (List.mem_of_getElem? h)
  exact ⟨by omega, this.2⟩
/-- No attribute lies between one in the list and the next one. -/
theorem starts_none {cs : List Cell} {i s : Nat} (hs : (startsN cs)[i]? = some s) {t : Nat} (ht : t < cs.length) (hst : stB cs t = true) : (t < s → ∃ j, j < i ∧ (startsN cs)[j]? = some t) ∧ (s < t → ∃ j, i < j ∧ (startsN cs)[j]? = some t) := by
  obtain ⟨j, hj, he⟩ := List.getElem_of_mem (starts_mem.2 ⟨ht, hst⟩)
  obtain ⟨hi, hs2⟩ := List.getElem?_eq_some_iff.1 hs
  have hjt : (startsN cs)[j]? = some t := by rw [List.getElem?_eq_getElem hj, he]
  constructor
  · intro h
    refine ⟨j, ?_, hjt⟩
    rcases Nat.lt_trichotomy j i with h1 | h1 | h1
    · exact h1
    · subst h1; omega
    · have := starts_lt h1 hj; omega
  · intro h
    refine ⟨j, ?_, hjt⟩
    rcases Nat.lt_trichotomy j i with h1 | h1 | h1
    · have := starts_lt h1 hi; omega
    · subst h1; omega
    · exact h1
theorem next_start {cs : List Cell} {i s t : Nat} (hs : (startsN cs)[i]? = some s) (ht : (startsN cs)[(i + 1) % (startsN cs).length]? = some t) : aftM cs s = t := by
  obtain ⟨h0, hst⟩ := start_in hs
  obtain ⟨h0', hst'⟩ := start_in ht
  obtain ⟨hi, he⟩ := List.getElem?_eq_some_iff.1 hs
  obtain ⟨hi', he'⟩ := List.getElem?_eq_some_iff.1 ht
  obtain ⟨L, h1, h2, h3, h4, h5⟩ := len_eq h0 hst
  rw [h3]
  have hN : 0 < cs.length := by omega
  -- where the next one lies, counted from here
  have key : ∀ j' : Nat, (j' : Int) < cs.length → ((s : Int) + 1 + j') % cs.length = t → (∀ j : Nat, j < j' → stB cs (((s : Int) + 1 + j) % cs.length) = false) → ((s : Int) + 1 + L) % cs.length = t := by
    intro j' hj' hjt hnone
    have hL : L = j' := by
      rcases Nat.lt_trichotomy L j' with h | h | h
      · have := hnone L h; rw [h4] at this; cases this
      · exact h
      · have := h5 j' h; rw [hjt, hst'] at this; cases this
    rw [hL]; exact hjt
  by_cases hlast : i + 1 < (startsN cs).length
  · have hm : (i + 1) % (startsN cs).length = i + 1 := Nat.mod_eq_of_lt hlast
    rw [hm] at ht
    have hlt : s < t := by
      obtain ⟨_, he2⟩ := List.getElem?_eq_some_iff.1 ht
      have := starts_lt (cs := cs) (i := i) (j := i + 1) (by omega) hlast
      omega
    refine key (t - s - 1) (by omega) (by rw [show (s : Int) + 1 + ((t - s - 1 : Nat) : Int) = t by omega]; exact Int.emod_eq_of_lt h0'.1 h0'.2) (fun j hj => ?_)
    rw [Int.emod_eq_of_lt (by omega) (by omega)]
    cases hb : stB cs ((s : Int) + 1 + j) with
    | false => rfl
    | true =>
      exfalso
      have hb' : stB cs ((s + 1 + j : Nat) : Int) = true := by rw [← hb]; congr 1
      obtain ⟨j2, hj2, hj3⟩ := (starts_none hs (t := s + 1 + j) (by omega) hb').2 (by omega)
      obtain ⟨j4, hj4, hj5⟩ := (starts_none ht (t := s + 1 + j) (by omega) hb').1 (by omega)
      obtain ⟨a1, a2⟩ := List.getElem?_eq_some_iff.1 hj3
      obtain ⟨b1, b2⟩ := List.getElem?_eq_some_iff.1 hj5
      have : j2 = j4 := by
        rcases Nat.lt_trichotomy j2 j4 with h | h | h
        · have := starts_lt h b1; omega
        · exact h
        · have := starts_lt h a1; omega
      omega
  · have hlen : i + 1 = (startsN cs).length := by omega
    have hm : (i + 1) % (startsN cs).length = 0 := by rw [hlen]; exact Nat.mod_self _
    rw [hm] at ht
    have hge : t ≤ s := by
      rcases Nat.eq_zero_or_pos i with h | h
      · subst h; rw [hs] at ht; have := Option.some.inj ht; omega
      · obtain ⟨a1, a2⟩ := List.getElem?_eq_some_iff.1 ht
        have := starts_lt (cs := cs) (i := 0) (j := i) h hi; omega
    refine key (cs.length - s - 1 + t) (by omega) (by rw [show (s : Int) + 1 + ((cs.length - s - 1 + t : Nat) : Int) = t + cs.length by omega, Int.add_emod_right]; exact Int.emod_eq_of_lt h0'.1 h0'.2) (fun j hj => ?_)
    cases hb : stB cs (((s : Int) + 1 + j) % cs.length) with
    | false => rfl
    | true =>
      exfalso
      by_cases hw : (s : Int) + 1 + j < cs.length
      · rw [Int.emod_eq_of_lt (by omega) hw] at hb
        have hb' : stB cs ((s + 1 + j : Nat) : Int) = true := by rw [← hb]; congr 1
        obtain ⟨j2, hj2, hj3⟩ := (starts_none hs (t := s + 1 + j) (by omega) hb').2 (by omega)
        have := (List.getElem?_eq_some_iff.1 hj3).1
        omega
      · have e : ((s : Int) + 1 + j) % cs.length = ((s + 1 + j - cs.length : Nat) : Int) := by
          rw [← Int.sub_emod_right, show (s : Int) + 1 + j - cs.length = ((s + 1 + j - cs.length : Nat) : Int) by omega]
          exact Int.emod_eq_of_lt (by omega) (by omega)
        rw [e] at hb
        obtain ⟨j2, hj2, hj3⟩ := (starts_none ht (t := s + 1 + j - cs.length) (by omega) hb).1 (by omega)
        omega
/-! ### From attribute to attribute -/
theorem walk1 {cs : List Cell} {k : Nat} {x y : Fld} (hx : (allM cs)[k]? = some x) (hy : (allM cs)[(((k : Int) + 1) % ((allM cs).length : Int)).toNat]? = some y) : aftM cs x.s = y.s := by
  obtain ⟨s, hs, rfl⟩ := allM_get hx
  obtain ⟨t, ht, rfl⟩ := allM_get hy
  have hk := (List.getElem?_eq_some_iff.1 hx).1
  have e : (((k : Int) + 1) % ((allM cs).length : Int)).toNat = (k + 1) % (startsN cs).length := by
    rw [allM_len]
    have : (((k + 1) % (startsN cs).length : Nat) : Int) = ((k : Int) + 1) % ((startsN cs).length : Int) := by rw [Int.natCast_emod]; rfl
    omega
  rw [e] at ht
  exact next_start hs ht
theorem walk0 {cs : List Cell} {k : Nat} {x : Fld} (hx : (allM cs)[k]? = some x) : (0 ≤ x.s ∧ x.s < cs.length) ∧ stB cs x.s = true := by
  obtain ⟨s, hs, rfl⟩ := allM_get hx
  exact start_in hs
theorem walk2 {cs : List Cell} {k : Nat} {x : Fld} (hx : (allM cs)[k]? = some x) : befM cs x.s = x.s := bef_self (walk0 hx).1 (walk0 hx).2
theorem walk3 {cs : List Cell} {k : Nat} {x : Fld} (hx : (allM cs)[k]? = some x) : openM cs x.s = false := by
  have h := walk0 hx
  unfold openM
  rw [walk2 hx, if_neg (by omega), decide_eq_false (fun h => h rfl)]; rfl
theorem ofB_eq {cs : List Cell} {i : Int} (h0 : 0 ≤ i ∧ i < cs.length) : ofB cs i = decide (((allM cs).length : Int) > 0) := by
  unfold ofB
  rw [allM_len]
  by_cases h : befM cs i < 0
  · have hn : startsN cs = [] := by
      rw [List.eq_nil_iff_forall_not_mem]
      intro s hs
      have h1 := starts_mem.1 hs
      have := look_none_allB h0 h s ⟨by omega, by omega⟩
      rw [h1.2] at this; cases this
    rw [decide_eq_false (by omega), decide_eq_false (by rw [hn]; simp)]
  · have h1 := bef_ex h0 h
    have hm : (befM cs i).toNat ∈ startsN cs := starts_mem.2 ⟨by omega, by rw [Int.toNat_of_nonneg h1.1]; exact h1.2.2.1⟩
    have := List.length_pos_of_mem hm
    rw [decide_eq_true h, decide_eq_true (by omega)]
theorem bef_m1 {cs : List Cell} {i : Int} (h : ofB cs i = false) : befM cs i = -1 := by
  have h2 : befM cs i < 0 := by simpa [ofB] using h
  exact look_neg h2
theorem open_T {cs : List Cell} {i : Int} (h0 : 0 ≤ i ∧ i < cs.length) (h : ofB cs i = false) : openM cs i = true := by rw [open_no h, decide_eq_true h0]
theorem walk5 {cs : List Cell} {i : Int} (h : ofB cs i = true) (h2 : i ≠ (ofM cs i).s) : openM cs i = decide ((ofM cs i).a / 32 % 2 * 32 = 0) := by
  rw [open_yes h (Ne.symm h2)]
  by_cases hp : (ofM cs i).a / 32 % 2 = 1
  · simp [hp]
  · have : (ofM cs i).a / 32 % 2 = 0 := by omega
    simp [this]
theorem walk6 {cs : List Cell} {i : Int} (h : ofB cs i = true) (h2 : ¬ i ≠ (ofM cs i).s) : openM cs i = false := open_self h (fun h3 => h2 (Ne.symm h3))
end Gs
namespace Gs
open Go
theorem all_in {cs : List Cell} {k : Nat} {x : Fld} (hx : (allM cs)[k]? = some x) : (0 ≤ x.s ∧ x.s < cs.length) ∧ 0 ≤ x.l ∧ x.l < cs.length ∧ x = atM cs x.s := by
  obtain ⟨s, hs, rfl⟩ := allM_get hx
  obtain ⟨h0, hst⟩ := start_in hs
  obtain ⟨L, h1, h2, _⟩ := len_eq h0 hst
  refine ⟨h0, ?_, ?_, rfl⟩
  · show 0 ≤ lenM cs s; omega
  · show lenM cs s < cs.length; omega
theorem all_a {cs : List Cell} (hw : Cws cs) {k : Nat} {x : Fld} (hx : (allM cs)[k]? = some x) : 0 ≤ x.a ∧ x.a ≤ 255 := by
  obtain ⟨s, hs, rfl⟩ := allM_get hx
  exact at_a hw s
theorem all_places {cs : List Cell} {k : Nat} {x : Fld} (hx : (allM cs)[k]? = some x) : ((placesL cs.length x).length : Int) = x.l := by
  have h := all_in hx
  rw [places_len h.1]; omega
theorem all_data {cs : List Cell} {k : Nat} {x : Fld} (hx : (allM cs)[k]? = some x) : ((dataM cs x).length : Int) = x.l := by rw [data_len]; exact all_places hx
theorem text_mid {page : Int} {cs : List Cell} {k : Nat} {x : Fld} (hx : (allM cs)[k]? = some x) (h : ¬ x.a / 4 % 4 = 3) : textOf page cs ((x.s + 1) % cs.length) x.l = runesBytes (textM page cs x) := by
  obtain ⟨h0, hl0, hl1, _⟩ := all_in hx
  have hN : 0 < cs.length := by omega
  rw [text_in (mod_bd _ hN), textM_n h]
  congr 1
  have e : (min (max x.l 0) (cs.length : Int)).toNat = x.l.toNat := by omega
  rw [e]
  unfold placesL sgl
  rw [if_pos h0, e, List.map_map]
  apply List.map_congr_left
  intro i _
  simp only [Function.comp]
  congr 1
  have hm := mod_bd (x.s + (i + 1 : Nat)) hN
  unfold cellAt getC
  rw [if_pos hm]
  congr 2
  rw [Int.emod_add_emod]
  congr 1
  omega
theorem text_blank {page : Int} {cs : List Cell} {k n : Nat} {x : Fld} (hx : (allM cs)[k]? = some x) (h : x.a / 4 % 4 = 3) (hn : (n : Int) = x.l) : runesBytes (List.replicate n 32) = runesBytes (textM page cs x) := by
  rw [textM_3 h]
  have := all_places hx
  have e : n = (placesL cs.length x).length := by omega
  rw [e]
theorem blank_step (k : Nat) : runesBytes (List.replicate k 32) ++ ⟨#[32]⟩ = runesBytes (List.replicate (k + 1) 32) := by rw [List.replicate_succ', runes_snoc, enc32]
theorem blank_size (k : Nat) : (runesBytes (List.replicate k 32)).size ≤ 4 * k := by
  have := runesBytes_size_le (List.replicate k 32)
  rwa [List.length_replicate] at this
end Gs
namespace Gs
open Go
theorem len_toListR (s : ByteArray) : s.data.toList.length = s.size := by rw [Array.length_toList]; rfl
theorem enc_size (r : Int) : (Utf8.encode r).size ≤ 4 := by
  unfold Utf8.encode
  generalize (if Utf8.valid r = true then r.toNat else Utf8.runeError) = c
  dsimp only
  split
  · exact Nat.le_of_ble_eq_true rfl
  · split
    · exact Nat.le_of_ble_eq_true rfl
    · split <;> exact Nat.le_of_ble_eq_true rfl
theorem startsL_len (cs : List Cell) : (startsL cs).length = (startsN cs).length := by simp [startsL]
theorem startsL_at {cs : List Cell} {k s : Nat} (h : (startsN cs)[k]? = some s) : (startsL cs)[k]? = some (s : Int) := by simp [startsL, h]
theorem startsL_get {cs : List Cell} {k : Nat} {x : Int} (h : (startsL cs)[k]? = some x) : ∃ s : Nat, (startsN cs)[k]? = some s ∧ x = s := by
  have hk := (List.getElem?_eq_some_iff.1 h).1
  rw [startsL_len] at hk
  exact ⟨_, List.getElem?_eq_getElem hk, by have := startsL_at (List.getElem?_eq_getElem hk); rw [h] at this; exact Option.some.inj this⟩
theorem startsL_bd {cs : List Cell} {k : Nat} {x : Int} (h : (startsL cs)[k]? = some x) : (0 ≤ x ∧ x < cs.length) ∧ stB cs x = true := startsL_mem.1 (List.mem_of_getElem? h)
theorem st_of {cs : List Cell} {k : Nat} {x : Cell} (hx : cs[k]? = some x) : stB cs k = x.st := by
  show (getC cs k).st = _
  rw [getC_in (i := (k : Int)) (by omega) hx]
theorem starts_step_T {cs : List Cell} {k : Nat} {x : Cell} (hx : cs[k]? = some x) (h : x.st = true) : (startsL cs).take (cntS cs k) ++ [(k : Int)] = (startsL cs).take (cntS cs (k + 1)) := by
  have hs : stB cs k = true := by rw [st_of hx]; exact h
  rw [cnt_T hs]
  exact take_step (startsL_at (starts_at (List.getElem?_eq_some_iff.1 hx).1 hs))
theorem starts_step_F {cs : List Cell} {k : Nat} {x : Cell} (hx : cs[k]? = some x) (h : ¬ x.st = true) : cntS cs (k + 1) = cntS cs k := cnt_F (by rw [st_of hx]; simpa using h)
theorem starts_done (cs : List Cell) : (startsL cs).take (cntS cs cs.length) = startsL cs := by
  rw [cnt_end]; exact List.take_of_length_le (by rw [startsL_len]; exact Nat.le_refl _)
def nextL (cs : List Cell) (k : Nat) : Int := if k + 1 < (startsL cs).length then (startsL cs).getD (k + 1) 0 else (startsL cs).getD 0 0 + cs.length
theorem next_T {cs : List Cell} {k : Nat} {x : Int} (h : k + 1 < (startsL cs).length) (hx : (startsL cs)[k + 1]? = some x) : x = nextL cs k := by
  unfold nextL; rw [if_pos h]; simp [List.getD, hx]
theorem next_F {cs : List Cell} {k : Nat} {x : Int} (h : ¬ k + 1 < (startsL cs).length) (hx : (startsL cs)[0]? = some x) : x + cs.length = nextL cs k := by
  unfold nextL; rw [if_neg h]; simp [List.getD, hx]
theorem all_atI {cs : List Cell} {k : Nat} {x : Int} (h : (startsL cs)[k]? = some x) : (allM cs)[k]? = some (atM cs x) := by
  obtain ⟨s, hs, rfl⟩ := startsL_get h; exact allM_at hs
theorem len_next {cs : List Cell} {k : Nat} {x : Int} (h : (startsL cs)[k]? = some x) : nextL cs k - x - 1 = lenM cs x := by
  obtain ⟨s, hs, rfl⟩ := startsL_get h
  obtain ⟨hk, he⟩ := List.getElem?_eq_some_iff.1 hs
  have hb := (start_in hs).1
  unfold nextL
  rw [startsL_len]
  by_cases hl : k + 1 < (startsN cs).length
  · rw [if_pos hl]
    have ht : (startsN cs)[k + 1]? = some (startsN cs)[k + 1] := List.getElem?_eq_getElem hl
    have ha := next_start hs (by rw [Nat.mod_eq_of_lt hl]; exact ht)
    have hlt := starts_lt (cs := cs) (i := k) (j := k + 1) (by omega) hl
    have hg : (startsL cs).getD (k + 1) 0 = ((startsN cs)[k + 1] : Nat) := by simp [List.getD, startsL_at ht]
    rw [hg]
    unfold lenM
    rw [ha, if_neg (by omega)]
  · rw [if_neg hl]
    have h0 : 0 < (startsN cs).length := by omega
    have ht : (startsN cs)[0]? = some (startsN cs)[0] := List.getElem?_eq_getElem h0
    have ha := next_start hs (by rw [show k + 1 = (startsN cs).length by omega, Nat.mod_self]; exact ht)
    have hge : (startsN cs)[0] ≤ s := by
      rcases Nat.eq_zero_or_pos k with h | h
      · subst h; omega
      · have := starts_lt (cs := cs) (i := 0) (j := k) h hk; omega
    have hg : (startsL cs).getD 0 0 = ((startsN cs)[0] : Nat) := by simp [List.getD, startsL_at ht]
    rw [hg]
    unfold lenM
    rw [ha, if_pos (by omega)]
    omega
theorem all_val {cs : List Cell} {k : Nat} {x y z : Int} {c : Cell} (hx : (startsL cs)[k]? = some x) (hy : (startsL cs)[k]? = some y) (hz : (startsL cs)[k]? = some z) (hc : cs[z.toNat]? = some c) : (⟨x, nextL cs k - y - 1, c.b % 64⟩ : Fld) = atM cs x := by
  have e1 : y = x := by rw [hx] at hy; exact (Option.some.inj hy).symm
  have e2 : z = x := by rw [hx] at hz; exact (Option.some.inj hz).symm
  subst e1 e2
  unfold atM
  rw [len_next hx, getC_in (startsL_bd hx).1.1 hc]
/-! ### The field of a place, by the list -/
theorem of_bef {cs : List Cell} {s i : Int} (h : befM cs i = s) (h0 : 0 ≤ s) : ofM cs i = atM cs s ∧ ofB cs i = true := by
  unfold ofM ofB
  rw [h, if_neg (by omega)]
  exact ⟨rfl, decide_eq_true (by omega)⟩
theorem of_hit1 {cs : List Cell} {k : Nat} {x : Fld} {i : Int} (hx : (allM cs)[k]? = some x) (h : x.s = i) : ofM cs i = x ∧ ofB cs i = true := by
  obtain ⟨h0, _, _, he⟩ := all_in hx
  have := of_bef (i := i) (by rw [← h]; exact walk2 hx) h0.1
  rw [← he] at this; exact this
theorem of_hit2 {cs : List Cell} {k j : Nat} {x : Fld} {y i : Int} (hx : (allM cs)[k]? = some x) (hy : (placesL cs.length x)[j]? = some y) (h : y = i) : ofM cs i = x ∧ ofB cs i = true := by
  obtain ⟨h0, h1, h2, he⟩ := all_in hx
  have hj := (List.getElem?_eq_some_iff.1 hy).1
  have hp := all_places hx
  rw [places_at hj] at hy
  have hy' := Option.some.inj hy
  have hl : x.l = lenM cs x.s := by rw [he]; rfl
  have := of_bef (i := i) (s := x.s) (by rw [← h, ← hy']; exact bef_in h0 (walk0 hx).2 (j := j + 1) (by omega)) h0.1
  rw [← he] at this; exact this
def noneO (cs : List Cell) (i : Int) (k : Nat) : Prop := ∀ (j : Nat) (x : Fld), j < k → (allM cs)[j]? = some x → ¬ x.s = i ∧ i ∉ placesL cs.length x
def noneP (cs : List Cell) (x : Fld) (i : Int) (k : Nat) : Prop := ∀ (j : Nat) (y : Int), j < k → (placesL cs.length x)[j]? = some y → ¬ y = i
theorem noneO_0 (cs : List Cell) (i : Int) : noneO cs i 0 := fun j x hj => by omega
theorem noneP_0 (cs : List Cell) (x : Fld) (i : Int) : noneP cs x i 0 := fun j y hj => by omega
theorem noneP_step {cs : List Cell} {x : Fld} {i y : Int} {k : Nat} (h : noneP cs x i k) (hy : (placesL cs.length x)[k]? = some y) (hn : ¬ y = i) : noneP cs x i (k + 1) := fun j z hj hz => by
  by_cases hq : j = k
  · subst hq; rw [hy] at hz; cases hz; exact hn
  · exact h j z (by omega) hz
theorem noneO_step {cs : List Cell} {x z : Fld} {i : Int} {k : Nat} (h : noneO cs i k) (hx : (allM cs)[k]? = some x) (hz : (allM cs)[k]? = some z) (hn : ¬ x.s = i) (hp : noneP cs z i (placesL cs.length z).length) : noneO cs i (k + 1) := fun j y hj hy => by
  by_cases hq : j = k
  · subst hq
    have e1 : z = y := by rw [hz] at hy; exact Option.some.inj hy
    have e2 : x = y := by rw [hx] at hy; exact Option.some.inj hy
    subst e1
    refine ⟨by rw [← e2]; exact hn, fun hm => ?_⟩
    obtain ⟨j2, hj2, he⟩ := List.getElem_of_mem hm
    exact hp j2 i hj2 (by rw [List.getElem?_eq_getElem hj2, he]) rfl
  · exact h j y (by omega) hy
theorem of_none {cs : List Cell} {i : Int} (h : noneO cs i (allM cs).length) : ofM cs i = zf ∧ ofB cs i = false := by
  by_cases hb : befM cs i < 0
  · unfold ofM ofB
    exact ⟨if_pos hb, decide_eq_false (by omega)⟩
  · exfalso
    have h0 : 0 ≤ i ∧ i < cs.length := by
      by_cases h0 : 0 ≤ i ∧ i < cs.length
      · exact h0
      · unfold befM at hb; rw [look_out h0] at hb; exact absurd (by omega) hb
    obtain ⟨h1, h2, h3, j, hj, he⟩ := bef_ex h0 hb
    have hm : (befM cs i).toNat ∈ startsN cs := starts_mem.2 ⟨by omega, by rw [Int.toNat_of_nonneg h1]; exact h3⟩
    obtain ⟨k, hk, hke⟩ := List.getElem_of_mem hm
    have hsk : (startsN cs)[k]? = some (befM cs i).toNat := by rw [List.getElem?_eq_getElem hk, hke]
    have hx := allM_at hsk
    rw [Int.toNat_of_nonneg h1] at hx
    have hn := h k _ (by rw [allM_len]; exact hk) hx
    rcases Nat.eq_zero_or_pos j with hj0 | hj0
    · subst hj0
      apply hn.1
      show befM cs i = i
      conv => rhs; rw [he]
      rw [Int.natCast_zero, Int.add_zero, Int.emod_eq_of_lt h1 h2]
    · apply hn.2
      have hp := all_places hx
      have hl : (atM cs (befM cs i)).l = lenM cs (befM cs i) := rfl
      have hat := places_at (N := cs.length) (f := atM cs (befM cs i)) (k := j - 1) (by omega)
      have e : ((atM cs (befM cs i)).s + ((j - 1 + 1 : Nat) : Int)) % (cs.length : Int) = i := by
        conv => rhs; rw [he]
        show (befM cs i + _) % _ = _
        rw [show j - 1 + 1 = j by omega]
      rw [e] at hat
      exact List.mem_of_getElem? hat
/-! ### The next attribute, by the list -/
def noneA (cs : List Cell) (i : Int) (k : Nat) : Prop := ∀ (j : Nat) (x : Int), j < k → (startsL cs)[j]? = some x → ¬ x > i
theorem noneA_0 (cs : List Cell) (i : Int) : noneA cs i 0 := fun j x hj => by omega
theorem noneA_step {cs : List Cell} {i x : Int} {k : Nat} (h : noneA cs i k) (hx : (startsL cs)[k]? = some x) (hn : ¬ x > i) : noneA cs i (k + 1) := fun j y hj hy => by
  by_cases hq : j = k
  · subst hq; rw [hx] at hy; cases hy; exact hn
  · exact h j y (by omega) hy
theorem starts_idx {cs : List Cell} {t : Int} (h0 : 0 ≤ t ∧ t < cs.length) (h : stB cs t = true) : ∃ j : Nat, (startsL cs)[j]? = some t := List.getElem?_of_mem (startsL_mem.2 ⟨h0, h⟩)
theorem startsL_lt {cs : List Cell} {i j : Nat} {x y : Int} (hx : (startsL cs)[i]? = some x) (hy : (startsL cs)[j]? = some y) (h : i < j) : x < y := by
  obtain ⟨s, hs, rfl⟩ := startsL_get hx
  obtain ⟨t, ht, rfl⟩ := startsL_get hy
  obtain ⟨hi, he⟩ := List.getElem?_eq_some_iff.1 hs
  obtain ⟨hj, he'⟩ := List.getElem?_eq_some_iff.1 ht
  have := starts_lt h hj
  omega
theorem aft_first {cs : List Cell} {i x : Int} {k : Nat} (h0 : 0 ≤ i ∧ i < cs.length) (hn : noneA cs i k) (hx : (startsL cs)[k]? = some x) (h : x > i) : aftM cs i = x := by
  obtain ⟨hb, hst⟩ := startsL_bd hx
  have hN : 0 < cs.length := by omega
  rw [aft_in h0]
  have e1 : (i + 1) % (cs.length : Int) = i + 1 := Int.emod_eq_of_lt (by omega) (by omega)
  rw [e1, look_at (k := (x - i - 1).toNat) (by omega) (fun j hj => ?_) (by omega) ?_]
  · rw [show i + 1 + ((x - i - 1).toNat : Int) * 1 = x by omega]; exact Int.emod_eq_of_lt hb.1 hb.2
  · rw [show i + 1 + ((x - i - 1).toNat : Int) * 1 = x by omega, Int.emod_eq_of_lt hb.1 hb.2]; exact hst
  · have e2 : (i + 1 + (j : Int) * 1) % (cs.length : Int) = i + 1 + j := by rw [Int.mul_one]; exact Int.emod_eq_of_lt (by omega) (by omega)
    rw [e2]
    cases hb2 : stB cs (i + 1 + j) with
    | false => rfl
    | true =>
      exfalso
      obtain ⟨m, hm⟩ := starts_idx (t := i + 1 + j) (by omega) hb2
      rcases Nat.lt_trichotomy m k with h1 | h1 | h1
      · exact hn m _ h1 hm (by omega)
      · subst h1; rw [hm] at hx; have := Option.some.inj hx; omega
      · have := startsL_lt hx hm h1; omega
theorem aft_wrap {cs : List Cell} {i x : Int} (h0 : 0 ≤ i ∧ i < cs.length) (hn : noneA cs i (startsL cs).length) (hx : (startsL cs)[0]? = some x) : aftM cs i = x := by
  obtain ⟨hb, hst⟩ := startsL_bd hx
  have hN : 0 < cs.length := by omega
  have hxi : ¬ x > i := hn 0 x (List.getElem?_eq_some_iff.1 hx).1 hx
  rw [aft_in h0]
  have key : ∀ j : Nat, ((i + 1) % (cs.length : Int) + (j : Int) * 1) % cs.length = (i + 1 + j) % cs.length := fun j => by rw [Int.mul_one, Int.emod_add_emod]
  have ek : (i + 1 + (((cs.length : Int) - i - 1 + x).toNat : Int)) % (cs.length : Int) = x := by
    rw [show i + 1 + (((cs.length : Int) - i - 1 + x).toNat : Int) = x + cs.length by omega, Int.add_emod_right]; exact Int.emod_eq_of_lt hb.1 hb.2
  rw [look_at (k := ((cs.length : Int) - i - 1 + x).toNat) (mod_bd _ hN) (fun j hj => ?_) (by omega) ?_]
  · rw [key, ek]
  · rw [key, ek]; exact hst
  · rw [key]
    cases hb2 : stB cs ((i + 1 + j) % (cs.length : Int)) with
    | false => rfl
    | true =>
      exfalso
      obtain ⟨m, hm⟩ := starts_idx (mod_bd _ hN) hb2
      have h1 : ¬ (i + 1 + j) % (cs.length : Int) > i := hn m _ (List.getElem?_eq_some_iff.1 hm).1 hm
      by_cases hw : i + 1 + (j : Int) < cs.length
      · rw [Int.emod_eq_of_lt (by omega) hw] at h1; omega
      · have e : (i + 1 + (j : Int)) % (cs.length : Int) = i + 1 + j - cs.length := by
          rw [← Int.sub_emod_right]; exact Int.emod_eq_of_lt (by omega) (by omega)
        rw [e] at hm
        rcases Nat.eq_zero_or_pos m with h2 | h2
        · subst h2; rw [hm] at hx; have := Option.some.inj hx; omega
        · have := startsL_lt hx hm h2; omega
theorem aft_no {cs : List Cell} {i : Int} (h : (startsL cs).length = 0) : aftM cs i = -1 := by
  by_cases h0 : 0 ≤ i ∧ i < cs.length
  · rw [aft_in h0]
    by_cases hl : lookM cs ((i + 1) % cs.length) 1 < 0
    · exact look_neg hl
    · exfalso
      obtain ⟨k, _, h2, h3, _⟩ := look_some (mod_bd (i + 1) (by omega)) hl
      obtain ⟨j, hj⟩ := starts_idx (by rw [h2]; exact mod_bd _ (by omega)) h3
      have := (List.getElem?_eq_some_iff.1 hj).1
      omega
  · exact aft_out h0
theorem open_out {cs : List Cell} {i : Int} (h : ¬ (0 ≤ i ∧ i < cs.length)) : openM cs i = false := by
  have hb : befM cs i < 0 := by unfold befM; rw [look_out h]; decide
  unfold openM
  rw [if_pos hb, decide_eq_false h]
theorem noneH_stepA {cs : List Cell} {k : Nat} {x : Fld} (h : noneH cs k) (hx : (allM cs)[k]? = some x) (hf : homeF x = false) : noneH cs (k + 1) := by
  obtain ⟨s, hs, rfl⟩ := allM_get hx
  exact noneH_step h hs hf
theorem home_atA {cs : List Cell} {k : Nat} {x : Fld} (h : noneH cs k) (hx : (allM cs)[k]? = some x) (hf : homeF x = true) : (x.s + 1) % cs.length = homeM cs := by
  obtain ⟨s, hs, rfl⟩ := allM_get hx
  exact home_at h hs hf
theorem textR_3 {page : Int} {cs : List Cell} {f : Fld} {k : Nat} (hk : k < (placesL cs.length f).length) (h : f.a / 4 % 4 = 3) : runesBytes ((textM page cs f).take k) ++ ⟨#[32]⟩ = runesBytes ((textM page cs f).take (k + 1)) := by
  have h2 : (textM page cs f)[k]? = some 32 := by rw [textM_3 h]; simp [hk]
  rw [← take_step h2, runes_snoc, enc32]
theorem textR_n {page : Int} {cs : List Cell} {f : Fld} {k : Nat} {y : Int} {c : Cell} (hy : (placesL cs.length f)[k]? = some y) (hc : cs[y.toNat]? = some c) (h : ¬ f.a / 4 % 4 = 3) : runesBytes ((textM page cs f).take k) ++ Utf8.encode (sign1 page c) = runesBytes ((textM page cs f).take (k + 1)) := by
  have h2 : (textM page cs f)[k]? = some (sign1 page c) := by rw [textM_n h, List.getElem?_map, hy]; show some (sign1 page (getC cs y)) = _; rw [getC_in (places_get hy).1 hc]
  rw [← take_step h2, runes_snoc]
/-- Modified, or not, where a place has a field. -/
def markQ (q : Bool) (cs : List Cell) (i : Int) : List Cell := if befM cs i < 0 then cs else modC q cs (befM cs i)
theorem markQ_T (cs : List Cell) (i : Int) : markQ true cs i = markC cs i := rfl
theorem markQ_len (q : Bool) (cs : List Cell) (i : Int) : (markQ q cs i).length = cs.length := by unfold markQ; split; rfl; exact modC_len _ _ _
theorem markQ_no {q : Bool} {cs : List Cell} {i : Int} (h : ofB cs i = false) : markQ q cs i = cs := by unfold markQ; rw [if_pos (by simpa [ofB] using h)]
theorem markQ_yes {q : Bool} {cs : List Cell} {i : Int} (h : ofB cs i = true) : markQ q cs i = modC q cs (ofM cs i).s ∧ 0 ≤ (ofM cs i).s ∧ (ofM cs i).s < cs.length := by
  have hb : ¬ befM cs i < 0 := by simpa [ofB] using h
  have hr := bef_rng hb
  unfold markQ ofM
  rw [if_neg hb, if_neg hb]
  exact ⟨rfl, hr.1, hr.2⟩
end Gs
