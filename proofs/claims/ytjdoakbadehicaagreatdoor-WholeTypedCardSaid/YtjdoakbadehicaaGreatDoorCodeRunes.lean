/-
  Layer 1 in plain Lean: the runes of a text of signs; a text that is valid. No program, no condition.
-/
import Derived.Test.YtjdoakbadehicaaGreatDoorCodeText
import Derived.Lib.MapLaws
namespace Gs
open Go
theorem getD_app {l r : List UInt8} {i : Nat} (h : i < l.length) : (l ++ r).getD i 0 = l.getD i 0 := by
  simp [List.getD, List.getElem?_append_left h]
/-- What is decoded of valid bytes is so whatever comes behind them. -/
theorem decode_app {l r : List UInt8} (hne : l ≠ []) (hv : (Lib.decodeL l).1 ≠ 65533) : Lib.decodeL (l ++ r) = Lib.decodeL l ∧ (Lib.decodeL l).2 ≤ l.length := by
  have hl : 0 < l.length := List.length_pos_iff.2 hne
  rw [Lib.decodeL_N] at hv
  rw [Lib.decodeL_N, Lib.decodeL_N, List.length_append]
  have e0 : (l ++ r).getD 0 0 = l.getD 0 0 := getD_app hl
  rcases Lib.decodeN_shape l.length (l.getD 0 0).toNat (l.getD 1 0).toNat (l.getD 2 0).toNat (l.getD 3 0).toNat with ⟨c, e⟩ | ⟨c1, c2, c3, cv, e⟩ | ⟨c1, c2, c3, c4, cv, cs, e⟩ | ⟨c1, c2, c3, c4, c5, cv, cw, e⟩ | e
  · rw [e, e0]
    refine ⟨?_, by simp only; omega⟩
    unfold Lib.decodeN; rw [if_pos c]
  · have e1 : (l ++ r).getD 1 0 = l.getD 1 0 := getD_app c2
    rw [e, e0, e1]
    refine ⟨?_, by simp only; omega⟩
    unfold Lib.decodeN; rw [if_neg (by omega), if_pos ⟨c1, by omega, c3⟩, if_pos cv]
  · have e1 : (l ++ r).getD 1 0 = l.getD 1 0 := getD_app (by omega)
    have e2 : (l ++ r).getD 2 0 = l.getD 2 0 := getD_app c2
    rw [e, e0, e1, e2]
    refine ⟨?_, by simp only; omega⟩
    have k0 := (l.getD 0 0).toNat_lt
    unfold Lib.decodeN; rw [if_neg (by omega), if_neg (by omega), if_pos ⟨c1, ⟨by omega, c3⟩, by omega, c4⟩, if_pos ⟨cv, by omega⟩]
  · have e1 : (l ++ r).getD 1 0 = l.getD 1 0 := getD_app (by omega)
    have e2 : (l ++ r).getD 2 0 = l.getD 2 0 := getD_app (by omega)
    have e3 : (l ++ r).getD 3 0 = l.getD 3 0 := getD_app c2
    rw [e, e0, e1, e2, e3]
    refine ⟨?_, by simp only; omega⟩
    unfold Lib.decodeN; rw [if_neg (by omega), if_neg (by omega), if_neg (by omega), if_pos ⟨c1, ⟨by omega, c3⟩, ⟨by omega, c4⟩, by omega, c5⟩, if_pos ⟨cv, by omega⟩]
  · rw [e] at hv; exact absurd rfl hv
/-- The runes of a list of bytes. -/
def rl : Nat → List UInt8 → List Int
  | 0, _ => []
  | _ + 1, [] => []
  | f + 1, x :: l => ((Lib.decodeL (x :: l)).1 : Int) :: rl f ((x :: l).drop (Lib.decodeL (x :: l)).2)
theorem rl_nil (f : Nat) : rl f [] = [] := by cases f <;> rfl
theorem rl_step {f : Nat} {l : List UInt8} (h : l ≠ []) : rl (f + 1) l = ((Lib.decodeL l).1 : Int) :: rl f (l.drop (Lib.decodeL l).2) := by
  cases l with
  | nil => exact absurd rfl h
  | cons x l => rfl
theorem decode_drop (s : ByteArray) (pos : Nat) : Utf8.decode s pos = Lib.decodeL (s.data.toList.drop pos) := by
  rw [Lib.decode_N, Lib.decodeL_N]
  simp [List.getD, List.getElem?_drop]
theorem runesAt_rl (s : ByteArray) : ∀ (f pos : Nat), s.size ≤ pos + f → runesAt s pos = rl f (s.data.toList.drop pos)
  | f, pos, h => by
    by_cases hp : pos < s.size
    · cases f with
      | zero => omega
      | succ f =>
        have hw := width_pos s pos hp
        have hne : s.data.toList.drop pos ≠ [] := by
          intro e
          have := congrArg List.length e
          have hs : s.data.toList.length = s.size := by simp
          rw [List.length_drop, hs] at this
          simp at this; omega
        rw [runesAt_step hp, rl_step hne, decode_drop, List.drop_drop]
        rw [decode_drop] at hw
        rw [runesAt_rl s f _ (by omega)]
    · rw [runesAt_end hp]
      have hs : s.data.toList.length = s.size := by simp
      rw [List.drop_eq_nil_of_le (by omega), rl_nil]
theorem runes_rl (l : List UInt8) (f : Nat) (hf : l.length ≤ f) : runes ⟨l.toArray⟩ = rl f l := by
  unfold runes
  rw [runesAt_rl _ f 0 (by rw [Sh.str_size]; omega)]
  simp
theorem width1 {l : List UInt8} (h : l ≠ []) : 1 ≤ (Lib.decodeL l).2 := by
  have := width_pos ⟨l.toArray⟩ 0 (by rw [Sh.str_size]; exact List.length_pos_iff.2 h)
  exact this
theorem bof_bad (page : Int) {r : Int} (h : 256 ≤ r) : bof page r = none := by
  cases hb : bof page r with
  | none => rfl
  | some b =>
    obtain ⟨h1, _, h3⟩ := bof_lt hb
    have := sign_range (page := page) (b := (b : Int)) (by omega) (by omega)
    omega
/-- A text that has bytes: each head is valid. -/
theorem enc_head {page : Int} {f : Nat} {l : List UInt8} {xs : List Int} (hne : l ≠ []) (h : enc page (rl (f + 1) l) = some xs) :
    ∃ (b : Nat) (ys : List Int), xs = (b : Int) :: ys ∧ bof page ((Lib.decodeL l).1 : Int) = some b ∧ enc page (rl f (l.drop (Lib.decodeL l).2)) = some ys ∧ (Lib.decodeL l).1 ≠ 65533 := by
  rw [rl_step hne] at h
  simp only [enc] at h
  split at h
  · rename_i b ys hb hy
    cases h
    refine ⟨b, ys, rfl, hb, hy, fun e => ?_⟩
    rw [e, bof_bad page (by omega)] at hb
    cases hb
  · cases h
/-- .. and these are, as a text, itself. -/
theorem txt_enc (page : Int) : ∀ (f : Nat) (l : List UInt8) (xs : List Int), l.length ≤ f → enc page (rl f l) = some xs → txt page xs = l
  | 0, l, xs, hf, h => by
    have : l = [] := List.length_eq_zero_iff.1 (by omega)
    subst this; cases h; rfl
  | f + 1, l, xs, hf, h => by
    by_cases hne : l = []
    · subst hne; cases h; rfl
    · obtain ⟨b, ys, rfl, hb, hy, hv⟩ := enc_head hne h
      have hw := width1 hne
      have ih := txt_enc page f _ ys (by rw [List.length_drop]; omega) hy
      obtain ⟨h1, h2, h3⟩ := bof_lt hb
      have : txt page ((b : Int) :: ys) = let1 page b ++ txt page ys := rfl
      rw [this, ih, let1, if_pos h2, h3, Lib.encode_decode l hne (fun e => hv e.1), List.take_append_drop]
/-- Behind a text that has bytes, another's runes are its own. -/
theorem rl_app (page : Int) : ∀ (f : Nat) (l r : List UInt8) (xs : List Int) (g : Nat), l.length ≤ f → r.length ≤ g → enc page (rl f l) = some xs → ∀ m, l.length + r.length ≤ m → rl m (l ++ r) = rl f l ++ rl g r
  | 0, l, r, xs, g, hf, hg, h, m, hm => by
    have : l = [] := List.length_eq_zero_iff.1 (by omega)
    subst this
    rw [rl_nil, List.nil_append, List.nil_append, ← runes_rl r m (by simpa using hm), ← runes_rl r g hg]
  | f + 1, l, r, xs, g, hf, hg, h, m, hm => by
    by_cases hne : l = []
    · subst hne
      rw [rl_nil, List.nil_append, List.nil_append, ← runes_rl r m (by simpa using hm), ← runes_rl r g hg]
    · obtain ⟨b, ys, rfl, hb, hy, hv⟩ := enc_head hne h
      have hw := width1 hne
      obtain ⟨hd, hle⟩ := decode_app (r := r) hne hv
      have hl0 : 0 < l.length := List.length_pos_iff.2 hne
      cases m with
      | zero => omega
      | succ m =>
        rw [rl_step (by simp [hne]), rl_step hne, hd, List.drop_append_of_le_length hle]
        rw [rl_app page f _ r ys g (by rw [List.length_drop]; omega) hg hy m (by rw [List.length_drop]; omega)]
        rfl
theorem enc_two {page : Int} {s t : ByteArray} {xs ys : List Int} (hs : bytesOf page s = some xs) (ht : bytesOf page t = some ys) : bytesOf page (s ++ t) = some (xs ++ ys) := by
  have es : s = ⟨s.data.toList.toArray⟩ := rfl
  have et : t = ⟨t.data.toList.toArray⟩ := rfl
  have est : s ++ t = ⟨(s.data.toList ++ t.data.toList).toArray⟩ := by rw [← app_str]
  unfold bytesOf at hs ht ⊢
  rw [es, runes_rl _ _ (Nat.le_refl _)] at hs
  rw [et, runes_rl _ _ (Nat.le_refl _)] at ht
  rw [est, runes_rl _ (s.data.toList.length + t.data.toList.length) (by simp)]
  rw [rl_app page _ _ _ xs _ (Nat.le_refl _) (Nat.le_refl _) hs _ (Nat.le_refl _), enc_append, hs, ht]
theorem txt_bytes {page : Int} {s : ByteArray} {xs : List Int} (hs : bytesOf page s = some xs) : (⟨(txt page xs).toArray⟩ : ByteArray) = s := by
  have es : s = ⟨s.data.toList.toArray⟩ := rfl
  unfold bytesOf at hs
  rw [es, runes_rl _ _ (Nat.le_refl _)] at hs
  rw [txt_enc page _ _ xs (Nat.le_refl _) hs]
/-- The runes of a text of signs. -/
def letter (page c : Int) : Int := if seen c then sign page c else 32
def smallOk : Bool := (List.range 256).all fun r => decide (Lib.decodeL (Lib.encodeRune (r : Int)) = (r, (Lib.encodeRune (r : Int)).length)) && decide (Lib.encodeRune (r : Int) ≠ [])
theorem smallOk_true : smallOk = true := by decide +kernel
theorem small {r : Int} (h0 : 0 ≤ r) (h1 : r < 256) : Lib.decodeL (Lib.encodeRune r) = (r.toNat, (Lib.encodeRune r).length) ∧ Lib.encodeRune r ≠ [] := by
  have := List.all_eq_true.1 smallOk_true r.toNat (by simp; omega)
  rw [Int.toNat_of_nonneg h0] at this
  simpa using this
theorem let1_head {page c : Int} (h0 : 0 ≤ c) (h1 : c < 256) (r : List UInt8) : Lib.decodeL (let1 page c ++ r) = ((letter page c).toNat, (let1 page c).length) ∧ let1 page c ≠ [] ∧ 0 ≤ letter page c := by
  have sr := sign_range (page := page) h0 h1
  unfold let1 letter
  by_cases hs : seen c = true
  · rw [if_pos hs, if_pos hs]
    obtain ⟨h2, h3⟩ := small sr.1 sr.2
    have := (decode_app (r := r) h3 (by rw [h2]; simp only; omega)).1
    exact ⟨this.trans h2, h3, sr.1⟩
  · rw [if_neg hs, if_neg hs]
    have e : ([32] : List UInt8) = Lib.encodeRune 32 := by decide +kernel
    obtain ⟨h2, h3⟩ := small (r := 32) (by omega) (by omega)
    rw [e]
    have := (decode_app (r := r) h3 (by rw [h2]; simp)).1
    exact ⟨this.trans h2, h3, by omega⟩
theorem rl_txt (page : Int) : ∀ (bs : List Int) (f : Nat), (∀ x ∈ bs, 0 ≤ x ∧ x ≤ 255) → (txt page bs).length ≤ f → rl f (txt page bs) = bs.map (letter page)
  | [], f, _, _ => by rw [show txt page [] = [] from rfl, rl_nil]; rfl
  | c :: bs, f, hb, hf => by
    have hc := hb c (by simp)
    have e : txt page (c :: bs) = let1 page c ++ txt page bs := rfl
    obtain ⟨h1, h2, h3⟩ := let1_head (page := page) hc.1 (by omega) (txt page bs)
    have hl := List.length_pos_iff.2 h2
    rw [e, List.length_append] at hf
    cases f with
    | zero => omega
    | succ f =>
      rw [e, rl_step (by simp [h2]), h1]
      simp only [List.drop_left]
      rw [rl_txt page bs f (fun x hx => hb x (by simp [hx])) (by omega), List.map_cons, Int.toNat_of_nonneg h3]
theorem runes_txt (page : Int) {bs : List Int} (hb : ∀ x ∈ bs, 0 ≤ x ∧ x ≤ 255) : runes ⟨(txt page bs).toArray⟩ = bs.map (letter page) := by
  rw [runes_rl _ _ (Nat.le_refl _), rl_txt page bs _ hb (Nat.le_refl _)]
theorem enc_seen (page : Int) : ∀ (bs : List Int), (∀ x ∈ bs, 0 ≤ x ∧ x ≤ 255) → (∀ x ∈ bs, seen x = true) → enc page (bs.map (letter page)) = some bs
  | [], _, _ => rfl
  | c :: bs, hb, hs => by
    have hc := hb c (by simp)
    have h1 := hs c (by simp)
    have : bof page (letter page c) = some c.toNat := by
      unfold letter; rw [if_pos h1]
      have := bof_sign (page := page) (b := c.toNat) (by omega) (by rw [Int.toNat_of_nonneg hc.1]; exact h1)
      rwa [Int.toNat_of_nonneg hc.1] at this
    simp only [List.map_cons, enc, this, enc_seen page bs (fun x hx => hb x (by simp [hx])) (fun x hx => hs x (by simp [hx]))]
    rw [Int.toNat_of_nonneg hc.1]
theorem bytesOf_txt {page : Int} {bs : List Int} (hb : ∀ x ∈ bs, 0 ≤ x ∧ x ≤ 255) (hs : ∀ x ∈ bs, seen x = true) : bytesOf page ⟨(txt page bs).toArray⟩ = some bs := by
  unfold bytesOf; rw [runes_txt page hb, enc_seen page bs hb hs]
theorem filt_t {bs : List Int} {k : Nat} {x : Int} (hx : bs[k]? = some x) (h : 64 ≤ x ∧ x ≤ 254) : (bs.take (k + 1)).filter seen = (bs.take k).filter seen ++ [x] := by
  rw [List.take_add_one, hx, List.filter_append]; simp [seen, h]
theorem filt_f {bs : List Int} {k : Nat} {x : Int} (hx : bs[k]? = some x) (h : ¬ (64 ≤ x ∧ x ≤ 254)) : (bs.take (k + 1)).filter seen = (bs.take k).filter seen := by
  rw [List.take_add_one, hx, List.filter_append]
  have : seen x = false := by unfold seen; exact decide_eq_false h
  simp [this]
theorem some_of {o : Option (List Int)} (h : ¬ ((if o.isSome then (0 : Int) else 21) ≠ 0)) : ∃ xs, o = some xs := by
  cases o with
  | none => exact absurd (by decide) h
  | some xs => exact ⟨xs, rfl⟩
theorem runes_count (page : Int) {bs : List Int} (hb : ∀ x ∈ bs, 0 ≤ x ∧ x ≤ 255) : (runes ⟨(txt page bs).toArray⟩).length = bs.length := by rw [runes_txt page hb, List.length_map]
end Gs
