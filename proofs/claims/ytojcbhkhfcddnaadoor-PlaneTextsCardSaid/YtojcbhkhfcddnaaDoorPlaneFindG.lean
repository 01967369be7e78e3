/-
  Layer 14 in plain Lean: where a text stands, whatever the text; texts that are valid; strings cut. No program, no condition.
-/
import Derived.Test.YtojcbhkhfcddnaaDoorPlaneFind
import Derived.Shelf.Unicode.DecodeSlow
import Derived.Laws.Strings2
import Derived.Laws.Slices
namespace Go.Sh
open Go
variable {P : Program} {w : World}
theorem isStr_eq {t : TypeId} (h : isStr P t = true) : P.underlying t = some .string := by
  unfold isStr at h
  split at h
  · assumption
  · cases h
theorem sliceSL {t : TypeId} {s : ByteArray} {k : IntKind} {l : Int} (ht : isStr P t = true) (h0 : 0 ≤ l) (h1 : l ≤ s.size) : (Instr.sliceAt t (.string s) (some (.int k l)) none none).run P w = .ok (.string (s.extract l.toNat s.size)) w := by
  rw [run_sliceAt_string _ _ _ _ _ _ (isStr_eq ht)]; exact run_slice_string_l w t s (isStr_eq ht) k l h0 h1
theorem sliceSH {t : TypeId} {s : ByteArray} {k : IntKind} {l : Int} (ht : isStr P t = true) (h0 : 0 ≤ l) (h1 : l ≤ s.size) : (Instr.sliceAt t (.string s) none (some (.int k l)) none).run P w = .ok (.string (s.extract 0 l.toNat)) w := by
  rw [run_sliceAt_string _ _ _ _ _ _ (isStr_eq ht)]; exact run_slice_string_h w t s (isStr_eq ht) k l h0 h1
theorem sliceSB {t : TypeId} {s : ByteArray} {k k' : IntKind} {l h : Int} (ht : isStr P t = true) (h0 : 0 ≤ l) (h1 : l ≤ h) (h2 : h ≤ s.size) : (Instr.sliceAt t (.string s) (some (.int k l)) (some (.int k' h)) none).run P w = .ok (.string (s.extract l.toNat h.toNat)) w := by
  rw [run_sliceAt_string _ _ _ _ _ _ (isStr_eq ht)]; exact run_slice_string w t s k k' l h (isStr_eq ht) h0 h1 h2
end Go.Sh
namespace Gs
open Go
theorem tabs_up {w w' : World} (h : Lib.Utf8Tabs 0 1 w) (u : Sh.Upd Sh.no w w') : Lib.Utf8Tabs 0 1 w' := by
  have key : ∀ g o v, w.cell? ⟨g, o, none⟩ = some v → w'.cell? ⟨g, o, none⟩ = some v := by
    intro g o v hc
    have hg : g < w.heap.size := by
      by_cases hg : g < w.heap.size
      · exact hg
      · have hn : w.heap[g]? = none := Array.getElem?_eq_none (by omega)
        simp [World.cell?, hn] at hc
    have e := u.block g hg (fun h => h.elim)
    simp only [World.cell?] at hc ⊢
    rw [e]; exact hc
  exact ⟨fun c hc => key _ _ _ (h.1 c hc), fun i hi => ⟨key _ _ _ (h.2 i hi).1, key _ _ _ (h.2 i hi).2⟩⟩
/-- Is a list of bytes a text: is it what its runes come to? -/
def okL (f : Nat) (l : List UInt8) : Prop := (rl f l).flatMap Lib.encodeRune = l
def badL (l : List UInt8) : Prop := (Lib.decodeL l).1 = 65533 ∧ (Lib.decodeL l).2 = 1
theorem okL_nil (f : Nat) : okL f [] := by unfold okL; rw [rl_nil]; rfl
theorem okL_step {f : Nat} {l : List UInt8} (hne : l ≠ []) (hb : ¬ badL l) : okL (f + 1) l ↔ okL f (l.drop (Lib.decodeL l).2) := by
  unfold okL
  rw [rl_step hne, List.flatMap_cons, Lib.encode_decode l hne hb]
  constructor
  · intro h
    have h2 : l.take (Lib.decodeL l).2 ++ (rl f (l.drop (Lib.decodeL l).2)).flatMap Lib.encodeRune = l.take (Lib.decodeL l).2 ++ l.drop (Lib.decodeL l).2 := by rw [List.take_append_drop]; exact h
    exact List.append_cancel_left h2
  · intro h
    rw [h, List.take_append_drop]
theorem dec_fffd (r : List UInt8) : Lib.decodeL ([239, 191, 189] ++ r) = (65533, 3) := by
  show Utf8.decode _ 0 = _
  rw [Lib.decode_at]
  have h0 : (⟨([239, 191, 189] ++ r).toArray⟩ : ByteArray).get! 0 = 239 := by simp [ByteArray.get!]
  have h1 : (⟨([239, 191, 189] ++ r).toArray⟩ : ByteArray).get! (0 + 1) = 191 := by simp [ByteArray.get!]
  have h2 : (⟨([239, 191, 189] ++ r).toArray⟩ : ByteArray).get! (0 + 2) = 189 := by simp [ByteArray.get!]
  have hs : (⟨([239, 191, 189] ++ r).toArray⟩ : ByteArray).size - 0 = r.length + 3 := by
    show ([239, 191, 189] ++ r).toArray.size - 0 = _
    simp
  rw [h0, h1, h2, hs]
  unfold Lib.decodeN
  simp
theorem enc_fffd : Lib.encodeRune (65533 : Int) = [239, 191, 189] := by decide +kernel
theorem okL_bad {f : Nat} {l : List UInt8} (hne : l ≠ []) (hb : badL l) : ¬ okL (f + 1) l := by
  intro h
  unfold okL at h
  rw [rl_step hne, List.flatMap_cons, hb.1] at h
  have e : Lib.encodeRune ((65533 : Nat) : Int) = [239, 191, 189] := enc_fffd
  rw [e] at h
  have hd := dec_fffd ((rl f (l.drop (Lib.decodeL l).2)).flatMap Lib.encodeRune)
  rw [h] at hd
  have := hb.2
  rw [hd] at this
  cases this
/-- From a place on. -/
def okFrom (s : ByteArray) (pos : Nat) : Prop := okL (s.size - pos) (s.data.toList.drop pos)
def valid (s : ByteArray) : Prop := okFrom s 0
theorem len_toList (s : ByteArray) : s.data.toList.length = s.size := by rw [Array.length_toList]; rfl
theorem rl_fuel (l : List UInt8) : ∀ (f g : Nat), l.length ≤ f → l.length ≤ g → rl f l = rl g l := by
  intro f g hf hg
  rw [← runes_rl l f hf, ← runes_rl l g hg]
theorem okL_fuel {l : List UInt8} {f g : Nat} (hf : l.length ≤ f) (hg : l.length ≤ g) : okL f l ↔ okL g l := by unfold okL; rw [rl_fuel l f g hf hg]
theorem ok_end {s : ByteArray} {pos : Nat} (h : ¬ pos < s.size) : okFrom s pos := by
  have : s.data.toList.drop pos = [] := List.drop_eq_nil_of_le (by rw [len_toList]; omega)
  unfold okFrom; rw [this]; exact okL_nil _
theorem ok_step {s : ByteArray} {pos : Nat} (h : pos < s.size) (hb : ¬ ((Utf8.decode s pos).1 = 65533 ∧ (Utf8.decode s pos).2 = 1)) : okFrom s pos ↔ okFrom s (pos + (Utf8.decode s pos).2) := by
  have hne : s.data.toList.drop pos ≠ [] := fun e => by have := congrArg List.length e; rw [List.length_drop, len_toList] at this; simp at this; omega
  have hw := width_pos s pos h
  unfold okFrom
  obtain ⟨f, hf⟩ : ∃ f, s.size - pos = f + 1 := ⟨s.size - pos - 1, by omega⟩
  rw [hf, okL_step hne (by rw [decode_drop] at hb; exact hb), decode_drop, List.drop_drop]
  rw [decode_drop] at hw
  exact okL_fuel (by rw [List.length_drop, len_toList]; omega) (by rw [List.length_drop, len_toList]; omega)
theorem ok_bad {s : ByteArray} {pos : Nat} (h : pos < s.size) (hb : (Utf8.decode s pos).1 = 65533 ∧ (Utf8.decode s pos).2 = 1) : ¬ okFrom s pos := by
  have hne : s.data.toList.drop pos ≠ [] := fun e => by have := congrArg List.length e; rw [List.length_drop, len_toList] at this; simp at this; omega
  unfold okFrom
  obtain ⟨f, hf⟩ : ∃ f, s.size - pos = f + 1 := ⟨s.size - pos - 1, by omega⟩
  rw [hf]
  exact okL_bad hne (by rw [decode_drop] at hb; exact hb)
/-- What Go's decoder hands back from a place on. -/
theorem go_at {s : ByteArray} {pos : Nat} (h : pos < s.size) : Lib.decodeGo (s.extract pos s.size) = Utf8.decode s pos := by
  have hs : (s.extract pos s.size).size = s.size - pos := by rw [ByteArray.size_extract]; omega
  unfold Lib.decodeGo
  rw [if_neg (by omega), decode_drop, decode_drop]
  congr 1
  have : (s.extract pos s.size).data.toList = s.data.toList.drop pos := by
    rw [ByteArray.data_extract, Array.toList_extract]
    simp only [List.extract]
    exact List.take_of_length_le (by rw [List.length_drop, len_toList]; omega)
  rw [this]; rfl
theorem width_le {s : ByteArray} {pos : Nat} (h : pos < s.size) : pos + (Utf8.decode s pos).2 ≤ s.size := by
  rw [Lib.decode_at]
  have : (Lib.decodeN (s.size - pos) (s.get! pos).toNat (s.get! (pos + 1)).toNat (s.get! (pos + 2)).toNat (s.get! (pos + 3)).toNat).2 ≤ s.size - pos := by
    unfold Lib.decodeN
    repeat' split
    all_goals simp only
    all_goals omega
  omega
theorem valid_runes {s : ByteArray} (h : valid s) : (runes s).flatMap Lib.encodeRune = s.data.toList := by
  unfold valid okFrom okL at h
  rw [List.drop_zero, Nat.sub_zero] at h
  have e : runes s = rl s.size s.data.toList := by
    have := runes_rl s.data.toList s.size (by rw [len_toList]; exact Nat.le_refl _)
    rw [← this]
  rw [e]; exact h
theorem signs_valid {l : List Int} (h : ∀ x ∈ l, Sgn x) : valid (runesBytes l) := by
  unfold valid okFrom okL
  rw [List.drop_zero, Nat.sub_zero, runes_bytes h]
  show (rl _ (l.flatMap Lib.encodeRune)).flatMap _ = l.flatMap _
  rw [rl_signs l _ h (by show _ ≤ (l.flatMap Lib.encodeRune).toArray.size; simp)]
/-- The first place from which on a text stands. -/
def hitB (page : Int) (cs : List Cell) (t : ByteArray) (i : Nat) : Bool := decide (textOf page cs i ((runes t).length : Nat) = t)
def findB (page : Int) (cs : List Cell) (t : ByteArray) : Int :=
  if (runes t).length = 0 then 0 else if cs.length < (runes t).length then -1 else match (List.range cs.length).find? (hitB page cs t) with | some i => i | none => -1
def noHit (page : Int) (cs : List Cell) (t : ByteArray) (k : Nat) : Prop := ∀ j, j < k → hitB page cs t j = false
theorem noHit_0 (page : Int) (cs : List Cell) (t : ByteArray) : noHit page cs t 0 := fun j hj => by omega
theorem noHit_step {page : Int} {cs : List Cell} {t : ByteArray} {k : Nat} (h : noHit page cs t k) (hn : ¬ textOf page cs k ((runes t).length : Nat) = t) : noHit page cs t (k + 1) := fun j hj => by
  by_cases hq : j = k
  · subst hq; exact decide_eq_false hn
  · exact h j (by omega)
theorem findB_0 {page : Int} {cs : List Cell} {t : ByteArray} (h : (runes t).length = 0) : findB page cs t = 0 := by unfold findB; rw [if_pos h]
theorem findB_long {page : Int} {cs : List Cell} {t : ByteArray} (h : ¬ (runes t).length = 0) (h2 : cs.length < (runes t).length) : findB page cs t = -1 := by unfold findB; rw [if_neg h, if_pos h2]
theorem findB_none {page : Int} {cs : List Cell} {t : ByteArray} (h : ¬ (runes t).length = 0) (h2 : ¬ cs.length < (runes t).length) (hn : noHit page cs t cs.length) : findB page cs t = -1 := by
  unfold findB
  have : (List.range cs.length).find? (hitB page cs t) = none := by
    rw [List.find?_eq_none]
    intro j hj
    rw [hn j (List.mem_range.1 hj)]; simp
  rw [if_neg h, if_neg h2, this]
theorem findB_at {page : Int} {cs : List Cell} {t : ByteArray} {k : Nat} (h : ¬ (runes t).length = 0) (h2 : ¬ cs.length < (runes t).length) (hn : noHit page cs t k) (hk : k < cs.length) (he : textOf page cs k ((runes t).length : Nat) = t) : findB page cs t = k := by
  unfold findB
  have : (List.range cs.length).find? (hitB page cs t) = some k := by
    rw [List.find?_range_eq_some]
    exact ⟨decide_eq_true he, by simpa using hk, fun j hj => by simp [hn j hj]⟩
  rw [if_neg h, if_neg h2, this]
theorem hit_iff {page : Int} {cs : List Cell} {t : ByteArray} {k : Nat} (hw : Cws cs) (hv : valid t) (hk : k < cs.length) (h2 : ¬ cs.length < (runes t).length) : textOf page cs k ((runes t).length : Nat) = t ↔ sgl page cs k (runes t).length = runes t := by
  rw [text_signs hk (by omega)]
  have hs := sgl_sgn (page := page) hw k (runes t).length
  constructor
  · intro h; rw [← runes_signs hs, h]
  · intro h
    rw [h] at hs ⊢
    rw [runes_bytes hs, valid_runes hv]
theorem hit_bad {page : Int} {cs : List Cell} {t : ByteArray} {k : Nat} (hw : Cws cs) (hv : ¬ valid t) (hk : k < cs.length) (h2 : ¬ cs.length < (runes t).length) : ¬ textOf page cs k ((runes t).length : Nat) = t := by
  rw [text_signs hk (by omega)]
  intro h
  exact hv (h ▸ signs_valid (sgl_sgn (page := page) hw k (runes t).length))
theorem findB_bad {page : Int} {cs : List Cell} {t : ByteArray} (h : ¬ (runes t).length = 0) (hw : Cws cs) (hv : ¬ valid t) : findB page cs t = -1 := by
  by_cases h2 : cs.length < (runes t).length
  · exact findB_long h h2
  · exact findB_none h h2 (fun j hj => decide_eq_false (hit_bad hw hv hj h2))
theorem cnt_lt2 {N a : Nat} {b : Int} {v v' : Value} (h : v = .int .i64 (a : Nat)) (h' : v' = .int .i64 b) (hab : (a : Int) < b) (ha : a < N) : N - (RowKit.intOf v').toNat < N - (RowKit.intOf v).toNat := by
  subst h; subst h'
  simp only [RowKit.intOf]
  omega
theorem ext_size {s : ByteArray} {pos : Nat} (h : pos ≤ s.size) : (s.extract pos s.size).size = s.size - pos := by rw [ByteArray.size_extract]; omega
theorem ext_list {s : ByteArray} {a b : Nat} (h : a ≤ b) (h2 : b ≤ s.size) : (s.extract a b).data.toList.length = b - a := by
  rw [len_toList, ByteArray.size_extract]; omega
/-- A bad byte is no sign of seven bits. -/
theorem bad_ge {s : ByteArray} {pos : Nat} (h : pos < s.size) (hb : (Utf8.decode s pos).1 = 65533) {x : UInt8} (hx : (s.extract pos s.size).data.toList[0]? = some x) : 128 ≤ x.toNat := by
  by_cases hc : 128 ≤ x.toNat
  · exact hc
  · exfalso
    have e : (s.extract pos s.size).data.toList = s.data.toList.drop pos := by
      rw [ByteArray.data_extract, Array.toList_extract]
      simp only [List.extract]
      exact List.take_of_length_le (by rw [List.length_drop, len_toList]; omega)
    rw [e] at hx
    obtain ⟨hl, hx2⟩ := List.getElem?_eq_some_iff.1 hx
    have hg : s.get! pos = x := by
      rw [List.getElem_drop] at hx2
      have : pos < s.data.size := h
      have h3 : s.data[pos] = x := by simpa using hx2
      have e2 : s.get! pos = s.data[pos]! := rfl
      rw [e2, getElem!_pos s.data pos this, h3]
    rw [Lib.decode_at, hg] at hb
    have : Lib.decodeN (s.size - pos) x.toNat (s.get! (pos + 1)).toNat (s.get! (pos + 2)).toNat (s.get! (pos + 3)).toNat = (x.toNat, 1) := by
      unfold Lib.decodeN
      rw [if_pos (by omega)]
    rw [this] at hb
    simp only at hb
    omega
theorem bad_0 {s : ByteArray} {pos : Nat} (h : pos < s.size) : Utf8.decode (s.extract pos s.size) 0 = Utf8.decode s pos := by
  have h1 := go_at h
  have hs := ext_size (s := s) (pos := pos) (by omega)
  have h2 := go_at (s := s.extract pos s.size) (pos := 0) (by omega)
  have e : (s.extract pos s.size).extract 0 (s.extract pos s.size).size = s.extract pos s.size := by
    rw [Sh.bytes_eq_iff, ByteArray.data_extract, Array.toList_extract]
    simp only [List.extract, List.drop_zero]
    exact List.take_of_length_le (by rw [len_toList]; omega)
  rw [e, h1] at h2
  exact h2.symm
def badAt (s : ByteArray) (pos : Nat) : Prop := (Utf8.decode s pos).1 = 65533 ∧ (Utf8.decode s pos).2 = 1
theorem bad_first {s : ByteArray} {pos : Nat} (h : pos < s.size) (hb : badAt s pos) {x : UInt8} {i : Nat} (hx : (s.extract pos s.size).data.toList[i]? = some x) : i = 0 → 128 ≤ x.toNat := fun h0 => bad_ge h hb.1 (by subst h0; exact hx)
/-- What is decoded behind a bad place, as a pair by name. -/
theorem dec_pair {s : ByteArray} {pos i : Nat} (h : pos < s.size) (hb : badAt s pos) (hi : i < (s.extract pos s.size).size) :
    ∃ r : Nat × Nat, Lib.decodeGo ((s.extract pos s.size).extract i (s.extract pos s.size).size) = r ∧ (i = 0 → r.2 = 1) ∧ i + r.2 ≤ (s.extract pos s.size).size ∧ 1 ≤ r.2 :=
  ⟨_, go_at hi, fun h0 => by rw [h0, bad_0 h]; exact hb.2, width_le hi, width_pos _ _ hi⟩
theorem rowsL_at {page c : Int} {ps : List Cell} {n k : Nat} {x : ByteArray} (h : (rowsL page c ps n)[k]? = some x) : x = textOf page ps (k * c) c := by
  have hk := (List.getElem?_eq_some_iff.1 h).1
  rw [rowsL_len] at hk
  have : (rowsL page c ps n)[k]? = some (textOf page ps (k * c) c) := by simp [rowsL, hk]
  rw [this] at h; exact (Option.some.inj h).symm
end Gs
