/-
  Layer 15 in plain Lean: what its laws say, second text. No program, no condition.
-/
import Derived.Test.YtojcbhkhfcddnaaFieldLaws
namespace Gs
open Go
theorem all_in {cs : List Cell} {k : Nat} {x : Fld} (hx : (allM cs)[k]? = some x) : (0 ≤ x.s ∧ x.s < cs.length) ∧ 0 ≤ x.l ∧ x.l < cs.length ∧ x = atM cs x.s := by
  obtain ⟨s, hs, rfl⟩ := allM_get hx
  obtain ⟨h0, hst⟩ := start_in hs
  obtain ⟨L, h1, h2, _⟩ := len_eq h0 hst
  refine ⟨h0, ?_, ?_, rfl⟩
  · show 0 ≤ lenM cs s; omega
  · show lenM cs s < cs.length; omega
theorem all_a {cs : List Cell} (hw : Cws cs) {k : Nat} {x : Fld} (hx : (allM cs)[k]? = some x) : 0 ≤ x.a ∧ x.a ≤ 255 := by
  obtain ⟨s, hs, rfl⟩ := allM_get hx
  exact at_a hw s
theorem all_places {cs : List Cell} {k : Nat} {x : Fld} (hx : (allM cs)[k]? = some x) : ((placesL cs.length x).length : Int) = x.l := by
  have h := all_in hx
  rw [places_len h.1]; omega
theorem all_data {cs : List Cell} {k : Nat} {x : Fld} (hx : (allM cs)[k]? = some x) : ((dataM cs x).length : Int) = x.l := by rw [data_len]; exact all_places hx
theorem text_mid {page : Int} {cs : List Cell} {k : Nat} {x : Fld} (hx : (allM cs)[k]? = some x) (h : ¬ x.a / 4 % 4 = 3) : textOf page cs ((x.s + 1) % cs.length) x.l = runesBytes (textM page cs x) := by
  obtain ⟨h0, hl0, hl1, _⟩ := all_in hx
  have hN : 0 < cs.length := by omega
  rw [text_in (mod_bd _ hN), textM_n h]
  congr 1
  have e : (min (max x.l 0) (cs.length : Int)).toNat = x.l.toNat := by omega
  rw [e]
  unfold placesL sgl
  rw [if_pos h0, e, List.map_map]
  apply List.map_congr_left
  intro i _
  simp only [Function.comp]
  congr 1
  have hm := mod_bd (x.s + (i + 1 : Nat)) hN
  unfold cellAt getC
  rw [if_pos hm]
  congr 2
  rw [Int.emod_add_emod]
  congr 1
  omega
theorem text_blank {page : Int} {cs : List Cell} {k n : Nat} {x : Fld} (hx : (allM cs)[k]? = some x) (h : x.a / 4 % 4 = 3) (hn : (n : Int) = x.l) : runesBytes (List.replicate n 32) = runesBytes (textM page cs x) := by
  rw [textM_3 h]
  have := all_places hx
  have e : n = (placesL cs.length x).length := by omega
  rw [e]
theorem blank_step (k : Nat) : runesBytes (List.replicate k 32) ++ ⟨#[32]⟩ = runesBytes (List.replicate (k + 1) 32) := by rw [List.replicate_succ', runes_snoc, enc32]
theorem blank_size (k : Nat) : (runesBytes (List.replicate k 32)).size ≤ 4 * k := by
  have := runesBytes_size_le (List.replicate k 32)
  rwa [List.length_replicate] at this
end Gs
