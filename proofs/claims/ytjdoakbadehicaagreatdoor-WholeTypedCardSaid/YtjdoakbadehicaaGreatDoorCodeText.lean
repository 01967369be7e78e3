/-
  Layer 1 in plain Lean: texts as bytes, bytes as texts. No program, no condition.
-/
import Derived.Test.YtjdoakbadehicaaGreatDoorCodeModel
import Derived.Lib.RuneBytes
import Derived.Lib.OthersKept
import Derived.Test.YtjdoakbadehicaaGreatDoorMem
namespace Gs
open Go
def seen (b : Int) : Bool := decide (64 ≤ b ∧ b ≤ 254)
def let1 (page c : Int) : List UInt8 := if seen c then Lib.encodeRune (sign page c) else [32]
theorem let1_g {page x : Int} (h : 64 ≤ x ∧ x ≤ 254) : let1 page x = Lib.encodeRune (sign page x) := by unfold let1; rw [if_pos (by simpa [seen] using h)]
theorem let1_b {page x : Int} (h : ¬ (64 ≤ x ∧ x ≤ 254)) : let1 page x = [32] := by unfold let1; rw [if_neg (by simpa [seen] using h)]
def txt (page : Int) (bs : List Int) : List UInt8 := bs.flatMap (let1 page)
theorem txt_append (page : Int) (a b : List Int) : txt page (a ++ b) = txt page a ++ txt page b := by simp [txt]
theorem txt_step {page x : Int} {bs : List Int} {k : Nat} (h : bs[k]? = some x) : txt page (bs.take (k + 1)) = txt page (bs.take k) ++ let1 page x := by
  rw [List.take_add_one, h, txt_append]; simp [txt]
theorem txt_g {page x : Int} {bs : List Int} {k : Nat} (h : bs[k]? = some x) (hg : 64 ≤ x ∧ x ≤ 254) : Lib.byteCells (txt page (bs.take (k + 1))) = Lib.byteCells (txt page (bs.take k)) ++ Lib.runeCells (sign page x) := by
  rw [txt_step h, Lib.byteCells_append, let1, seen, decide_eq_true hg, if_pos rfl, Lib.byteCells_encodeRune]
theorem txt_b {page x : Int} {bs : List Int} {k : Nat} (h : bs[k]? = some x) (hg : ¬ (64 ≤ x ∧ x ≤ 254)) : Lib.byteCells (txt page (bs.take (k + 1))) = Lib.byteCells (txt page (bs.take k)) ++ [.int .u8 32] := by
  rw [txt_step h, Lib.byteCells_append, let1, seen, decide_eq_false hg]; rfl
theorem encode_le (r : Int) : (Lib.encodeRune r).length ≤ 4 := by
  have := Lib.encodeRuneZ_length r
  simp [Lib.encodeRune]; omega
theorem txt_length (page : Int) (bs : List Int) : (txt page bs).length ≤ 4 * bs.length := by
  induction bs with
  | nil => simp [txt]
  | cons c bs ih =>
    have : txt page (c :: bs) = let1 page c ++ txt page bs := rfl
    rw [this, List.length_append, List.length_cons]
    have : (let1 page c).length ≤ 4 := by
      unfold let1; split
      · exact encode_le _
      · simp
    omega
theorem byteCells_len (l : List UInt8) : (Lib.byteCells l).length = l.length := Lib.byteCells_length l

/-! ### Runes of a text -/
def runesAt (s : ByteArray) (pos : Nat) : List Int := if pos < s.size then ((Utf8.decode s pos).1 : Int) :: runesAt s (pos + max 1 (Utf8.decode s pos).2) else []
termination_by s.size - pos
decreasing_by omega
def runes (s : ByteArray) : List Int := runesAt s 0
theorem width_pos (s : ByteArray) (pos : Nat) (h : pos < s.size) : 1 ≤ (Utf8.decode s pos).2 := by
  by_cases ha : (s[pos]'h).toNat < 128
  · rw [decode_ascii s pos h ha]; exact Nat.le_refl _
  · exact (decode_high s pos h (by omega)).2
theorem runesAt_step {s : ByteArray} {pos : Nat} (h : pos < s.size) : runesAt s pos = ((Utf8.decode s pos).1 : Int) :: runesAt s (pos + (Utf8.decode s pos).2) := by
  rw [runesAt, if_pos h, Nat.max_eq_right (width_pos s pos h)]
theorem runesAt_end {s : ByteArray} {pos : Nat} (h : ¬ pos < s.size) : runesAt s pos = [] := by rw [runesAt, if_neg h]

def runesF (s : ByteArray) : Nat → Nat → List Int
  | 0, _ => []
  | f + 1, pos => if pos < s.size then ((Utf8.decode s pos).1 : Int) :: runesF s f (pos + (Utf8.decode s pos).2) else []
theorem runesF_eq (s : ByteArray) : ∀ (f pos : Nat), s.size ≤ pos + f → runesAt s pos = runesF s f pos
  | 0, pos, h => runesAt_end (by omega)
  | f + 1, pos, h => by
    unfold runesF
    split
    · rename_i hp
      have := width_pos s pos hp
      rw [runesAt_step hp, runesF_eq s f _ (by omega)]
    · rename_i hp; exact runesAt_end hp
theorem runes_eq (s : ByteArray) : runes s = runesF s s.size 0 := runesF_eq s _ _ (by omega)
/-! ### A text as bytes -/
def bof (page r : Int) : Option Nat := (List.range 256).find? fun b : Nat => seen b && sign page b == r
def bofK (page : Int) (k : Nat) (r : Int) : Option Nat := (List.range k).find? fun b : Nat => seen b && sign page b == r
theorem bofK_step {page : Int} {k : Nat} (r : Int) (hk : k < 256) : bofK page (k + 1) r = if seen k = true ∧ sign page k = r then some k else bofK page k r := by
  unfold bofK
  rw [List.range_succ, List.find?_append]
  by_cases h : seen k = true ∧ sign page k = r
  · rw [if_pos h]
    have : (List.range k).find? (fun b : Nat => seen b && sign page b == r) = none := by
      rw [List.find?_eq_none]
      intro b hb
      simp only [List.mem_range] at hb
      simp only [Bool.and_eq_true, beq_iff_eq, not_and]
      intro _ e
      have := sign_inj (page := page) (a := b) (b := k) (by omega) (by omega) (by omega) (by omega) (e.trans h.2.symm)
      omega
    rw [this]
    simp [h.1, h.2]
  · rw [if_neg h]
    have : [k].find? (fun b : Nat => seen b && sign page b == r) = none := by
      simp only [List.find?_cons, List.find?_nil]
      split
      · rename_i hh; simp only [Bool.and_eq_true, beq_iff_eq] at hh; exact absurd hh h
      · rfl
    rw [this]; simp
/-- What the document's search finds, if it is seen. -/
theorem bof_byteOf (page r : Int) : bof page r = match byteOf page r with | some b => (if seen b then some b else none) | none => none := by
  unfold bof byteOf
  cases h : (List.range 256).find? (fun b : Nat => sign page b == r) with
  | none =>
    rw [List.find?_eq_none] at h ⊢
    intro b hb
    have := h b hb
    simp_all
  | some b =>
    have hb := List.find?_some h
    have hm := List.mem_of_find?_eq_some h
    simp only [beq_iff_eq] at hb
    simp only [List.mem_range] at hm
    have huni : ∀ c ∈ List.range 256, sign page (c : Nat) = r → c = b := by
      intro c hc e
      simp only [List.mem_range] at hc
      have := sign_inj (page := page) (a := c) (b := b) (by omega) (by omega) (by omega) (by omega) (e.trans hb.symm)
      omega
    cases hs : seen b with
    | true =>
      simp only
      rw [if_pos hs]
      cases hf : (List.range 256).find? (fun b : Nat => seen b && sign page b == r) with
      | none =>
        rw [List.find?_eq_none] at hf
        have := hf b (List.mem_range.2 hm)
        simp [hs, hb] at this
      | some c =>
        have hc := List.find?_some hf
        have hcm := List.mem_of_find?_eq_some hf
        simp only [Bool.and_eq_true, beq_iff_eq] at hc
        rw [huni c hcm hc.2]
    | false =>
      simp only
      rw [if_neg (by rw [hs]; decide), List.find?_eq_none]
      intro c hc
      simp only [Bool.and_eq_true, beq_iff_eq, not_and]
      intro h1 h2
      rw [huni c hc h2, hs] at h1
      cases h1
theorem bof_of {page r : Int} {b : Nat} (h : byteOf page r = some b) (hs : 64 ≤ (b : Int) ∧ (b : Int) ≤ 254) : bof page r = some b := by
  rw [bof_byteOf, h]; simp only; rw [if_pos (by simpa [seen] using hs)]
theorem bof_of_not {page r : Int} {b : Nat} (h : byteOf page r = some b) (hs : ¬ (64 ≤ (b : Int) ∧ (b : Int) ≤ 254)) : bof page r = none := by
  rw [bof_byteOf, h]; simp only; rw [if_neg (by simpa [seen] using hs)]
theorem byteOf_lt {page r : Int} {b : Nat} (h : byteOf page r = some b) : b < 256 := List.mem_range.1 (List.mem_of_find?_eq_some h)
theorem bof_lt {page r : Int} {b : Nat} (h : bof page r = some b) : b < 256 ∧ seen b = true ∧ sign page b = r := by
  have h1 := List.find?_some h
  have h2 := List.mem_of_find?_eq_some h
  simp only [Bool.and_eq_true, beq_iff_eq] at h1
  exact ⟨List.mem_range.1 h2, h1.1, h1.2⟩
theorem bof_sign {page : Int} {b : Nat} (h : b < 256) (hs : seen b = true) : bof page (sign page b) = some b := by
  cases hf : bof page (sign page b) with
  | none =>
    have := List.find?_eq_none.1 hf b (List.mem_range.2 h)
    simp [hs] at this
  | some c =>
    obtain ⟨h1, h2, h3⟩ := bof_lt hf
    have := sign_inj (page := page) (a := c) (b := b) (by omega) (by omega) (by omega) (by omega) h3
    congr 1; omega
def enc (page : Int) : List Int → Option (List Int)
  | [] => some []
  | r :: rs => match bof page r, enc page rs with | some b, some l => some ((b : Int) :: l) | _, _ => none
def bytesOf (page : Int) (s : ByteArray) : Option (List Int) := enc page (runes s)
theorem enc_step {page r : Int} {rs acc : List Int} {b : Nat} {o : Option (List Int)} (h : o = (enc page (r :: rs)).map (acc ++ ·)) (hb : bof page r = some b) : o = (enc page rs).map ((acc ++ [(b : Int)]) ++ ·) := by
  rw [h]; simp only [enc, hb]
  cases enc page rs <;> simp
theorem enc_none {page r : Int} {rs acc : List Int} {o : Option (List Int)} (h : o = (enc page (r :: rs)).map (acc ++ ·)) (hb : bof page r = none) : o = none := by
  rw [h]; simp only [enc, hb]; rfl
theorem bytesOf_a : bytesOf 500 ⟨#[91, 97]⟩ = some [74, 129] := by unfold bytesOf; rw [runes_eq]; decide +kernel
theorem bytesOf_0 : bytesOf 37 ⟨#[0]⟩ = none := by unfold bytesOf; rw [runes_eq]; decide +kernel
theorem enc_step1 {page : Int} {s : ByteArray} {pos : Nat} {acc : List Int} {b : Nat} {o : Option (List Int)} (hp : pos < s.size) (h : o = (enc page (runesAt s pos)).map (acc ++ ·)) (hb : bof page ((Utf8.decode s pos).1 : Nat) = some b) :
    o = (enc page (runesAt s (pos + (Utf8.decode s pos).2))).map ((acc ++ [(b : Int)]) ++ ·) := enc_step (by rw [← runesAt_step hp]; exact h) hb
theorem enc_none1 {page : Int} {s : ByteArray} {pos : Nat} {acc : List Int} {o : Option (List Int)} (hp : pos < s.size) (h : o = (enc page (runesAt s pos)).map (acc ++ ·)) (hb : bof page ((Utf8.decode s pos).1 : Nat) = none) : o = none :=
  enc_none (r := ((Utf8.decode s pos).1 : Nat)) (rs := runesAt s (pos + (Utf8.decode s pos).2)) (acc := acc) (by rw [← runesAt_step hp]; exact h) hb
theorem enc_append (page : Int) (a b : List Int) : enc page (a ++ b) = match enc page a, enc page b with | some x, some y => some (x ++ y) | _, _ => none := by
  induction a with
  | nil => simp only [List.nil_append, enc]; cases enc page b <;> rfl
  | cons r a ih =>
    simp only [List.cons_append, enc, ih]
    cases bof page r <;> cases enc page a <;> cases enc page b <;> rfl
theorem enc_len {page : Int} {rs l : List Int} (h : enc page rs = some l) : l.length = rs.length := by
  induction rs generalizing l with
  | nil => cases h; rfl
  | cons r rs ih =>
    simp only [enc] at h
    split at h
    · rename_i b l' _ hl; cases h; simp [ih hl]
    · cases h
theorem enc_bytes {page : Int} {rs l : List Int} (h : enc page rs = some l) : ∀ x ∈ l, 0 ≤ x ∧ x ≤ 255 := by
  induction rs generalizing l with
  | nil => cases h; intro x hx; cases hx
  | cons r rs ih =>
    simp only [enc] at h
    split at h
    · rename_i b l' hb hl
      cases h
      intro x hx
      rcases List.mem_cons.1 hx with rfl | hx
      · have := (bof_lt hb).1; omega
      · exact ih hl x hx
    · cases h
theorem mset_bofK {page : Int} {k : Nat} {l : List (Int × Value)} (h : ∀ r, Sh.mget l r = (bofK page k r).map fun b => .int .u8 (b : Nat)) (hk : k < 256) (hs : 64 ≤ (k : Int) ∧ (k : Int) ≤ 254) (r : Int) :
    Sh.mget (Sh.mset l (sign page k) (.int .u8 (k : Nat))) r = (bofK page (k + 1) r).map fun b => .int .u8 (b : Nat) := by
  rw [Sh.mget_mset, bofK_step r hk, h r]
  have : seen k = true := by simp [seen, hs]
  by_cases e : sign page k = r
  · rw [if_pos e, if_pos ⟨this, e⟩]; rfl
  · rw [if_neg e, if_neg (fun h => e h.2)]
theorem skip_bofK {page : Int} {k : Nat} {l : List (Int × Value)} (h : ∀ r, Sh.mget l r = (bofK page k r).map fun b => .int .u8 (b : Nat)) (hk : k < 256) (hs : ¬ (64 ≤ (k : Int) ∧ (k : Int) ≤ 254)) (r : Int) :
    Sh.mget l r = (bofK page (k + 1) r).map fun b => .int .u8 (b : Nat) := by
  rw [bofK_step r hk, h r, if_neg]
  rintro ⟨h1, _⟩
  simp [seen] at h1
  omega
def encOk : Bool := (List.range 256).all fun r => decide ((Utf8.encode (r : Int)).data.toList = Lib.encodeRune (r : Int))
theorem encOk_true : encOk = true := by decide +kernel
theorem encode_small {r : Int} (h0 : 0 ≤ r) (h1 : r < 256) : Utf8.encode r = ⟨(Lib.encodeRune r).toArray⟩ := by
  have := List.all_eq_true.1 encOk_true r.toNat (by simp; omega)
  rw [Int.toNat_of_nonneg h0] at this
  simp only [decide_eq_true_eq] at this
  rw [← this]
theorem encode_size {r : Int} (h0 : 0 ≤ r) (h1 : r < 256) : (Utf8.encode r).size ≤ 4 := by
  rw [encode_small h0 h1, Sh.str_size]; exact encode_le r
theorem app_str (a b : List UInt8) : (⟨a.toArray⟩ : ByteArray) ++ ⟨b.toArray⟩ = ⟨(a ++ b).toArray⟩ := by
  rw [Sh.bytes_eq_iff]; simp
theorem str_g {page x : Int} {l : List UInt8} (h0 : 0 ≤ sign page x) (h1 : sign page x < 256) : Value.string ((⟨l.toArray⟩ : ByteArray) ++ Utf8.encode (sign page x)) = .string ⟨(l ++ Lib.encodeRune (sign page x)).toArray⟩ := by
  rw [encode_small h0 h1, app_str]
theorem str_b {l : List UInt8} : Value.string ((⟨l.toArray⟩ : ByteArray) ++ ⟨#[32]⟩) = .string ⟨(l ++ [32]).toArray⟩ := by
  rw [← app_str]

/-! ### Capitals -/
def capOk (l : List (Int × Int)) : Bool := (List.range 26).all fun i => (tabIn l).contains (65 + (i : Int))
theorem capOk_swapL (page : Int) : capOk (swapL page) = true := by
  rcases swapL_cases page with h | h | h <;> rw [h] <;> decide +kernel
theorem byteOf_spec {page r : Int} {b : Nat} (h : byteOf page r = some b) : b < 256 ∧ sign page b = r := by
  have h1 := List.find?_some h
  simp only [beq_iff_eq] at h1
  exact ⟨byteOf_lt h, h1⟩
theorem cap_some {page r : Int} (h0 : 65 ≤ r) (h1 : r ≤ 90) : ∃ b, byteOf page r = some b := by
  have := List.all_eq_true.1 (capOk_swapL page) (r - 65).toNat (by simp; omega)
  simp only [List.contains_iff_mem] at this
  rw [show (65 + ((r - 65).toNat : Int)) = r by omega] at this
  obtain ⟨b, hb, he⟩ := List.mem_map.1 this
  cases hf : byteOf page r with
  | some c => exact ⟨c, rfl⟩
  | none =>
    have := List.find?_eq_none.1 hf b hb
    simp only [beq_iff_eq] at this
    exact absurd he this
theorem byteOf_sign {page b : Int} (h0 : 0 ≤ b) (h1 : b < 256) : byteOf page (sign page b) = some b.toNat := by
  cases hf : byteOf page (sign page b) with
  | none =>
    have := List.find?_eq_none.1 hf b.toNat (by simp; omega)
    rw [Int.toNat_of_nonneg h0] at this
    simp at this
  | some c =>
    obtain ⟨h2, h3⟩ := byteOf_spec hf
    have := sign_inj (page := page) (a := c) (b := b) (by omega) (by omega) h0 h1 h3
    congr 1; omega
theorem upper_id {page b : Int} (h : sign page b < 97 ∨ 122 < sign page b) : upper page b = b := by unfold upper; rw [if_pos h]
theorem upper_small {page b : Int} (h0 : 97 ≤ sign page b) (h1 : sign page b ≤ 122) : sign page (upper page b) = sign page b - 32 ∧ 0 ≤ upper page b ∧ upper page b < 256 := by
  obtain ⟨c, hc⟩ := cap_some (page := page) (r := sign page b - 32) (by omega) (by omega)
  obtain ⟨h2, h3⟩ := byteOf_spec hc
  unfold upper
  rw [if_neg (by omega), hc]
  exact ⟨h3, by simp, by simp; omega⟩
theorem upper_range {page b : Int} (h0 : 0 ≤ b) (h1 : b < 256) : 0 ≤ upper page b ∧ upper page b < 256 := by
  by_cases h : sign page b < 97 ∨ 122 < sign page b
  · rw [upper_id h]; omega
  · exact (upper_small (by omega) (by omega)).2
theorem upper_upper {page b : Int} (h0 : 97 ≤ sign page b) (h1 : sign page b ≤ 122) : upper page (upper page b) = upper page b := by
  have := (upper_small h0 h1).1
  exact upper_id (by omega)
def diffs (page : Int) (k : Nat) : Nat := ((List.range k).filter fun i : Nat => sign page i != sign 37 i).length
theorem diffs_step (page : Int) (k : Nat) : diffs page (k + 1) = diffs page k + (if sign page k = sign 37 k then 0 else 1) := by
  unfold diffs
  rw [List.range_succ, List.filter_append, List.length_append]
  by_cases h : sign page k = sign 37 k <;> simp [h]
theorem diffs_le (page : Int) (k : Nat) : diffs page k ≤ k := by unfold diffs; exact Nat.le_trans (List.length_filter_le _ _) (by simp)
def diffsL (l : List (Int × Int)) : Nat := ((List.range 256).filter fun i : Nat => signIn l i != signIn [] i).length
theorem diffs_all (page : Int) : diffs page 256 ≤ 7 ∧ ((page = 500 ∨ page = 1047) ↔ 0 < diffs page 256) := by
  have e : diffs page 256 = diffsL (swapL page) := rfl
  rw [e]
  by_cases h5 : page = 500
  · subst h5
    have : diffsL (swapL 500) = 7 := by decide +kernel
    omega
  · by_cases h10 : page = 1047
    · subst h10
      have : diffsL (swapL 1047) = 6 := by decide +kernel
      omega
    · have hs : swapL page = [] := by unfold swapL; rw [if_neg h5, if_neg h10]
      have : diffsL [] = 0 := by decide +kernel
      rw [hs]
      omega
theorem runesAt_len (s : ByteArray) (f pos : Nat) (hf : s.size ≤ pos + f) : (runesAt s pos).length ≤ s.size - pos := by
  induction f generalizing pos with
  | zero => rw [runesAt_end (by omega)]; simp
  | succ f ih =>
    by_cases hp : pos < s.size
    · have hw := width_pos s pos hp
      rw [runesAt_step hp, List.length_cons]
      have := ih (pos + (Utf8.decode s pos).2) (by omega)
      omega
    · rw [runesAt_end hp]; simp
theorem bytesOf_len (s : ByteArray) (page : Int) : ((bytesOf page s).getD []).length ≤ s.size := by
  unfold bytesOf
  cases h : enc page (runes s) with
  | none => simp
  | some l =>
    have := enc_len h
    have h2 := runesAt_len s s.size 0 (by omega)
    simp only [Option.getD_some, this]
    exact h2
end Gs
