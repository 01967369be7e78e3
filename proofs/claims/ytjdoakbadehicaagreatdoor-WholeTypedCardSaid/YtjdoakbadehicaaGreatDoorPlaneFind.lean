/-
  Layer 14 in plain Lean: where a text stands. No program, no condition.
-/
import Derived.Test.YtjdoakbadehicaaGreatDoorPlaneText
import Derived.Test.YtjdoakbadehicaaGreatDoorCodeRunes
namespace Gs
open Go
/-- What a sign may be. -/
def Sgn (x : Int) : Prop := (0 ≤ x ∧ x < 256) ∨ (57344 ≤ x ∧ x < 57600)
def sgnOk1 (r : Nat) : Bool := decide ((Utf8.encode (r : Int)).data.toList = Lib.encodeRune (r : Int)) && decide (Lib.decodeL (Lib.encodeRune (r : Int)) = (r, (Lib.encodeRune (r : Int)).length)) && decide (Lib.encodeRune (r : Int) ≠ [])
theorem sgnOk_a : ((List.range 256).all sgnOk1) = true := by decide +kernel
theorem sgnOk_b : ((List.range 256).all fun r => sgnOk1 (57344 + r)) = true := by decide +kernel
theorem sgn_ok {x : Int} (h : Sgn x) : (Utf8.encode x).data.toList = Lib.encodeRune x ∧ Lib.decodeL (Lib.encodeRune x) = (x.toNat, (Lib.encodeRune x).length) ∧ Lib.encodeRune x ≠ [] := by
  have key : sgnOk1 x.toNat = true := by
    rcases h with h | h
    · exact List.all_eq_true.1 sgnOk_a x.toNat (by simp; omega)
    · have := List.all_eq_true.1 sgnOk_b (x.toNat - 57344) (by simp; omega)
      rwa [show 57344 + (x.toNat - 57344) = x.toNat by omega] at this
  have hx : ((x.toNat : Nat) : Int) = x := Int.toNat_of_nonneg (by rcases h with h | h <;> omega)
  unfold sgnOk1 at key
  rw [hx] at key
  simp only [Bool.and_eq_true, decide_eq_true_eq] at key
  exact ⟨key.1.1, key.1.2, key.2⟩
theorem runes_bytes {l : List Int} (h : ∀ x ∈ l, Sgn x) : runesBytes l = ⟨(l.flatMap Lib.encodeRune).toArray⟩ := by
  have key : ∀ (l : List Int) (r : ByteArray), (∀ x ∈ l, Sgn x) → (l.foldl (fun r n => r ++ Utf8.encode n) r).data.toList = r.data.toList ++ l.flatMap Lib.encodeRune := by
    intro l
    induction l with
    | nil => intro r _; simp
    | cons x l ih =>
      intro r h
      rw [List.foldl_cons, ih _ (fun y hy => h y (by simp [hy]))]
      simp [(sgn_ok (h x (by simp))).1]
  rw [Sh.bytes_eq_iff]
  have := key l ByteArray.empty h
  unfold runesBytes
  rw [this]; simp
theorem rl_signs : ∀ (l : List Int) (f : Nat), (∀ x ∈ l, Sgn x) → (l.flatMap Lib.encodeRune).length ≤ f → rl f (l.flatMap Lib.encodeRune) = l
  | [], f, _, _ => by simp [rl_nil]
  | x :: l, f, h, hf => by
    obtain ⟨_, h1, h2⟩ := sgn_ok (h x (by simp))
    have hx := h x (by simp)
    have hn : (Lib.decodeL (Lib.encodeRune x)).1 ≠ 65533 := by rw [h1]; rcases hx with hx | hx <;> (simp only; omega)
    have hd := (decode_app (r := l.flatMap Lib.encodeRune) h2 hn).1
    rw [List.flatMap_cons] at hf ⊢
    have hl := List.length_pos_iff.2 h2
    rw [List.length_append] at hf
    cases f with
    | zero => omega
    | succ f =>
      rw [rl_step (by simp [h2]), hd, h1]
      simp only [List.drop_left]
      rw [rl_signs l f (fun y hy => h y (by simp [hy])) (by omega), Int.toNat_of_nonneg (by rcases hx with hx | hx <;> omega)]
theorem runes_signs {l : List Int} (h : ∀ x ∈ l, Sgn x) : runes (runesBytes l) = l := by
  rw [runes_bytes h, runes_rl _ _ (Nat.le_refl _), rl_signs l _ h (Nat.le_refl _)]
theorem sgn_inj {l k : List Int} (h : ∀ x ∈ l, Sgn x) (h' : ∀ x ∈ k, Sgn x) : runesBytes l = runesBytes k ↔ l = k :=
  ⟨fun e => by rw [← runes_signs h, e, runes_signs h'], fun e => by rw [e]⟩
theorem sgn_sign1 {page : Int} {x : Cell} (h : Cw x) : Sgn (sign1 page x) := by
  have := sign_range (page := page) h.1 (by have := h.2; omega)
  obtain ⟨h0, h1⟩ := h
  unfold sign1 Sgn
  split
  · omega
  · split
    · omega
    · split <;> omega
theorem zc_w : Cw zc := ⟨by decide, by decide⟩
theorem cellAt_w {cs : List Cell} (h : Cws cs) (f : Int) (i : Nat) : Cw (cellAt cs f i) := by
  unfold cellAt
  rw [List.getD]
  cases hx : cs[((f + i) % cs.length).toNat]? with
  | none => exact zc_w
  | some x => exact h x (List.mem_of_getElem? hx)
theorem sgl_sgn {page : Int} {cs : List Cell} (h : Cws cs) (f : Int) (m : Nat) : ∀ x ∈ sgl page cs f m, Sgn x := by
  intro x hx
  simp only [sgl, List.mem_map, List.mem_range] at hx
  obtain ⟨i, _, rfl⟩ := hx
  exact sgn_sign1 (cellAt_w h f i)
/-- The first place from which on these signs stand. -/
def findL (page : Int) (cs : List Cell) (l : List Int) : Int :=
  if l = [] then 0 else if cs.length < l.length then -1 else match (List.range cs.length).find? fun i : Nat => decide (sgl page cs i l.length = l) with | some i => i | none => -1
theorem find_0 {page : Int} {cs : List Cell} {l : List Int} (h : l.length = 0) : findL page cs l = 0 := by
  unfold findL; rw [if_pos (List.length_eq_zero_iff.1 h)]
theorem find_long {page : Int} {cs : List Cell} {l : List Int} (h : l.length ≠ 0) (h2 : cs.length < l.length) : findL page cs l = -1 := by
  unfold findL; rw [if_neg (fun e => h (by rw [e]; rfl)), if_pos h2]
def noneTo (page : Int) (cs : List Cell) (l : List Int) (k : Nat) : Prop := (List.range k).find? (fun i : Nat => decide (sgl page cs i l.length = l)) = none
theorem none_0 (page : Int) (cs : List Cell) (l : List Int) : noneTo page cs l 0 := rfl
theorem none_step {page : Int} {cs : List Cell} {l : List Int} {k : Nat} (h : noneTo page cs l k) (hn : ¬ sgl page cs k l.length = l) : noneTo page cs l (k + 1) := by
  unfold noneTo at *
  rw [List.range_succ, List.find?_append, h]
  simp [hn]
theorem find_none {page : Int} {cs : List Cell} {l : List Int} (h0 : l.length ≠ 0) (h2 : ¬ cs.length < l.length) (h : noneTo page cs l cs.length) : findL page cs l = -1 := by
  unfold findL noneTo at *
  rw [if_neg (fun e => h0 (by rw [e]; rfl)), if_neg h2, h]
theorem find_at {page : Int} {cs : List Cell} {l : List Int} {k : Nat} (h0 : l.length ≠ 0) (h2 : ¬ cs.length < l.length) (h : noneTo page cs l k) (hk : k < cs.length) (he : sgl page cs k l.length = l) : findL page cs l = k := by
  unfold findL noneTo at *
  rw [if_neg (fun e => h0 (by rw [e]; rfl)), if_neg h2]
  have hs : (List.range cs.length).find? (fun i : Nat => decide (sgl page cs i l.length = l)) = some k := by
    have e : List.range cs.length = List.range k ++ (List.range' k (cs.length - k)) := by
      have h3 : List.range' 0 k ++ List.range' (0 + k) (cs.length - k) = List.range' 0 (k + (cs.length - k)) := List.range'_append_1
      rw [Nat.zero_add, show k + (cs.length - k) = cs.length by omega] at h3
      rw [List.range_eq_range', List.range_eq_range', h3]
    have e2 : List.range' k (cs.length - k) = k :: List.range' (k + 1) (cs.length - k - 1) := by
      rw [show cs.length - k = (cs.length - k - 1) + 1 by omega, List.range'_succ]; rfl
    rw [e, List.find?_append, h, e2]
    simp [he]
  rw [hs]
/-- All signs twice: from a place on, so many. -/
theorem sgl_twice {page : Int} {cs : List Cell} {a m : Nat} (ha : a < cs.length) (hm : m ≤ cs.length) : (((sgl page cs 0 cs.length) ++ (sgl page cs 0 cs.length)).drop a).take m = sgl page cs a m := by
  apply List.ext_getElem
  · rw [List.length_take, List.length_drop, List.length_append, sgl_len, sgl_len]; omega
  · intro i h1 h2
    rw [sgl_len] at h2
    rw [List.getElem_take, List.getElem_drop, List.getElem_append]
    have hc : ∀ j : Nat, j < cs.length → ((0 : Int) + j) % cs.length = j := fun j hj => by rw [Int.zero_add]; exact Int.emod_eq_of_lt (by omega) (by omega)
    split
    · rename_i h
      rw [sgl_len] at h
      simp only [sgl, List.getElem_map, List.getElem_range]
      congr 1
      unfold cellAt
      congr 2
      rw [hc _ h, Int.emod_eq_of_lt (by omega) (by omega)]; omega
    · rename_i h
      rw [sgl_len] at h
      simp only [sgl, List.getElem_map, List.getElem_range, List.length_map, List.length_range]
      congr 1
      unfold cellAt
      congr 2
      rw [hc _ (by omega)]
      have : ((a : Int) + i) % cs.length = (a + i - cs.length : Int) % cs.length := by rw [← Int.sub_emod_right]
      rw [this, Int.emod_eq_of_lt (by omega) (by omega)]; omega
theorem text_signs {page : Int} {cs : List Cell} {f : Nat} {m : Nat} (hf : f < cs.length) (hm : m ≤ cs.length) : textOf page cs f m = runesBytes (sgl page cs f m) := by
  rw [text_in (by omega)]; congr 2; omega
/-- '[]rune(s)' and 'range s' see the same. -/
theorem runesFrom_eq (s : ByteArray) : ∀ (b i : Nat) (acc : Array Value), s.size ≤ i + b → (Conv.runesFrom s b i acc).toList = acc.toList ++ Sh.vals .i32 (runesAt s i)
  | 0, i, acc, h => by rw [runesAt_end (by omega)]; simp [Conv.runesFrom, Sh.vals]
  | b + 1, i, acc, h => by
    unfold Conv.runesFrom
    split
    · rename_i hi
      have hw := width_pos s i hi
      rw [runesFrom_eq s b _ _ (by omega), runesAt_step hi]
      simp [Sh.vals]
    · rename_i hi
      rw [runesAt_end hi]; simp [Sh.vals]
theorem runesFrom_runes (s : ByteArray) : (Conv.runesFrom s s.size 0 #[]).toList = Sh.vals .i32 (runes s) := by
  rw [runesFrom_eq s s.size 0 #[] (by omega)]; simp [runes]
theorem runesFrom_size (s : ByteArray) : (Conv.runesFrom s s.size 0 #[]).size = (runes s).length := by
  have := congrArg List.length (runesFrom_runes s)
  rw [Sh.vals_length] at this
  simpa using this
theorem runes_le (s : ByteArray) : (runes s).length ≤ s.size := by have := runesAt_len s s.size 0 (by omega); simpa [runes] using this
/-! ### Planes that are made of rows that came in -/
def madeK (N : Nat) (cs : List Cell) (k : Nat) : List Cell := (cs.take k).take N ++ List.replicate (N - min k cs.length) zc
theorem made_0 (N : Nat) (cs : List Cell) : madeK N cs 0 = List.replicate N zc := by simp [madeK]
theorem made_len (N : Nat) (cs : List Cell) (k : Nat) : (madeK N cs k).length = N := by
  simp only [madeK, List.length_append, List.length_take, List.length_replicate]; omega
theorem made_in {N : Nat} {cs : List Cell} {k : Nat} {x : Cell} (hx : cs[k]? = some x) (hk : k < N) : (madeK N cs k).set k x = madeK N cs (k + 1) := by
  have hl : k < cs.length := (List.getElem?_eq_some_iff.1 hx).1
  have e1 : (cs.take k).take N = cs.take k := List.take_of_length_le (by rw [List.length_take]; omega)
  have e2 : (cs.take (k + 1)).take N = cs.take k ++ [x] := by
    rw [List.take_of_length_le (by rw [List.length_take]; omega), List.take_add_one, hx]; rfl
  have e3 : N - min k cs.length = (N - min (k + 1) cs.length) + 1 := by omega
  unfold madeK
  rw [e1, e2, e3, List.replicate_succ, List.set_append_right _ _ (by rw [List.length_take]; omega)]
  have : k - (cs.take k).length = 0 := by rw [List.length_take]; omega
  rw [this, List.set_cons_zero]; simp
theorem made_out {N : Nat} {cs : List Cell} {k : Nat} (hk : ¬ k < N) (hl : k < cs.length) : madeK N cs (k + 1) = madeK N cs k := by
  unfold madeK
  have e1 : N - min (k + 1) cs.length = 0 := by omega
  have e2 : N - min k cs.length = 0 := by omega
  rw [e1, e2, List.take_take, List.take_take, Nat.min_eq_left (by omega), Nat.min_eq_left (by omega)]
theorem made_w {N : Nat} {cs : List Cell} (h : Cws cs) (k : Nat) : Cws (madeK N cs k) := by
  intro x hx
  unfold madeK at hx
  rcases List.mem_append.1 hx with hx | hx
  · exact h x (List.mem_of_mem_take (List.mem_of_mem_take hx))
  · rw [List.eq_of_mem_replicate hx]; exact zc_w
end Gs
