/-
  What is seen of a field, as a text; blanks. No condition.
-/
import Derived.Test.YtojcbhkhfcddnaaFieldModel
import Derived.Test.YtojcbhkhfcddnaaBldC
namespace Go.Proofs.Ytojcbhkhfcddnaa
open Go Go.Sh
theorem repeat_sp (c : Nat) : (⟨(Lib.repeatL [32] c).toArray⟩ : ByteArray) = runesBytes (List.replicate c 32) := by
  induction c with
  | zero => rfl
  | succ c ih =>
    rw [List.replicate_succ', Gs.runes_snoc, ← ih, Gs.enc32, Sh.bytes_eq_iff]
    have h : ∀ c, Lib.repeatL [(32 : UInt8)] c = List.replicate c 32 := by
      intro c
      induction c with
      | zero => rfl
      | succ c ih =>
        have e : Lib.repeatL [(32 : UInt8)] (c + 1) = 32 :: Lib.repeatL [32] c := by simp [Lib.repeatL]
        rw [e, ih, List.replicate_succ]
    simp [h, List.replicate_succ']
theorem c_Repeat {c : Nat} {w : World} (hc : c ≤ 100000) : Calls Try.prog 50 #[.string ⟨#[32]⟩, .int .i64 (c : Nat)] w fun e w' => e = .returned (.string (runesBytes (List.replicate c 32))) ∧ Upd no w w' :=
  (Try.strings_Repeat ⟨#[32]⟩ c w (by omega) (by show 1 * c ≤ _; omega)).mono fun e w' h => ⟨by rw [h.1]; exact congrArg (fun s => Ending.returned (.string s)) (repeat_sp c), Fr.of_below h.2⟩
end Go.Proofs.Ytojcbhkhfcddnaa
namespace Gs
open Go
theorem textM_len (page : Int) (cs : List Cell) (f : Fld) : (textM page cs f).length = (placesL cs.length f).length := by
  unfold textM; split <;> simp
theorem textM_3 {page : Int} {cs : List Cell} {f : Fld} (h : f.a / 4 % 4 = 3) : textM page cs f = List.replicate (placesL cs.length f).length 32 := by unfold textM shownN; rw [if_pos h]
theorem textM_n {page : Int} {cs : List Cell} {f : Fld} (h : ¬ f.a / 4 % 4 = 3) : textM page cs f = (placesL cs.length f).map fun i => sign1 page (getC cs i) := by unfold textM shownN; rw [if_neg h]
theorem text_1 {page : Int} {cs : List Cell} {x : Int} (h : 0 ≤ x ∧ x < cs.length) : textOf page cs x 1 = Utf8.encode (sign1 page (getC cs x)) := by
  rw [text_in h]
  have e : (min (max 1 0) (cs.length : Int)).toNat = 0 + 1 := by omega
  have ec : cellAt cs x 0 = getC cs x := by
    unfold cellAt getC
    rw [if_pos h, Int.natCast_zero, Int.add_zero, Int.emod_eq_of_lt h.1 h.2]
  rw [e, sgl_text, ec]
  simp [sgl, runesBytes]
theorem textM_step {page : Int} {cs : List Cell} {f : Fld} {k : Nat} {x : Int} (hx : (placesL cs.length f)[k]? = some x) (h : ¬ f.a / 4 % 4 = 3) : (runesBytes ((textM page cs f).take k)).data.toList ++ (textOf page cs x 1).data.toList = (runesBytes ((textM page cs f).take (k + 1))).data.toList := by
  have h2 : (textM page cs f)[k]? = some (sign1 page (getC cs x)) := by rw [textM_n h, List.getElem?_map, hx]; rfl
  rw [← take_step h2, runes_snoc, text_1 (places_get hx)]
  simp
theorem text_take_size {page : Int} {cs : List Cell} {f : Fld} {k : Nat} (hk : k ≤ (placesL cs.length f).length) (h : cs.length ≤ 4096) : (runesBytes ((textM page cs f).take k)).data.toList.length ≤ 16384 := by
  have := runesBytes_size_le ((textM page cs f).take k)
  rw [List.length_take, textM_len] at this
  have h2 := places_le cs.length f
  have e : (runesBytes ((textM page cs f).take k)).data.toList.length = (runesBytes ((textM page cs f).take k)).size := by rw [Array.length_toList]; rfl
  omega
theorem text_done {page : Int} {cs : List Cell} {f : Fld} : (⟨(runesBytes ((textM page cs f).take (placesL cs.length f).length)).data.toList.toArray⟩ : ByteArray) = runesBytes (textM page cs f) := by
  rw [List.take_of_length_le (by rw [textM_len]; exact Nat.le_refl _), Array.toArray_toList]
end Gs
