/-
  Layer 1 in plain Lean: what the bytes of a page mean. No program, no condition.
-/
namespace Gs
def plainL : List Int := [0, 1, 2, 3, 156, 9, 134, 127, 151, 141, 142, 11, 12, 13, 14, 15, 16, 17, 18, 19, 157, 133, 8, 135, 24, 25, 146, 143, 28, 29, 30, 31, 128, 129, 130, 131, 132, 10, 23, 27, 136, 137, 138, 139, 140, 5, 6, 7, 144, 145, 22, 147, 148, 149, 150, 4, 152, 153, 154, 155, 20, 21, 158, 26, 32, 160, 226, 228, 224, 225, 227, 229, 231, 241, 162, 46, 60, 40, 43, 124, 38, 233, 234, 235, 232, 237, 238, 239, 236, 223, 33, 36, 42, 41, 59, 172, 45, 47, 194, 196, 192, 193, 195, 197, 199, 209, 166, 44, 37, 95, 62, 63, 248, 201, 202, 203, 200, 205, 206, 207, 204, 96, 58, 35, 64, 39, 61, 34, 216, 97, 98, 99, 100, 101, 102, 103, 104, 105, 171, 187, 240, 253, 254, 177, 176, 106, 107, 108, 109, 110, 111, 112, 113, 114, 170, 186, 230, 184, 198, 164, 181, 126, 115, 116, 117, 118, 119, 120, 121, 122, 161, 191, 208, 221, 222, 174, 94, 163, 165, 183, 169, 167, 182, 188, 189, 190, 91, 93, 175, 168, 180, 215, 123, 65, 66, 67, 68, 69, 70, 71, 72, 73, 173, 244, 246, 242, 243, 245, 125, 74, 75, 76, 77, 78, 79, 80, 81, 82, 185, 251, 252, 249, 250, 255, 92, 247, 83, 84, 85, 86, 87, 88, 89, 90, 178, 212, 214, 210, 211, 213, 48, 49, 50, 51, 52, 53, 54, 55, 56, 57, 179, 219, 220, 217, 218, 159]
def swapL (page : Int) : List (Int × Int) :=
  if page = 500 then [(0x4A, 0x5B), (0x4F, 0x21), (0x5A, 0x5D), (0x5F, 0x5E), (0xB0, 0xA2), (0xBA, 0xAC), (0xBB, 0x7C)]
  else if page = 1047 then [(0x5F, 0x5E), (0xAD, 0x5B), (0xB0, 0xAC), (0xBA, 0xDD), (0xBB, 0xA8), (0xBD, 0x5D)]
  else []
def signIn (l : List (Int × Int)) (b : Int) : Int := match l.find? (fun p => p.1 == b) with | some p => p.2 | none => plainL.getD b.toNat 0
def sign (page b : Int) : Int := signIn (swapL page) b
def tabIn (l : List (Int × Int)) : List Int := (List.range 256).map fun i : Nat => signIn l (i : Int)
def tab (page : Int) : List Int := tabIn (swapL page)
theorem plainL_length : plainL.length = 256 := by decide +kernel
theorem swapL_cases (page : Int) : swapL page = swapL 500 ∨ swapL page = swapL 1047 ∨ swapL page = [] := by
  unfold swapL
  split
  · exact .inl rfl
  · split
    · exact .inr (.inl rfl)
    · exact .inr (.inr rfl)
def swOk (l : List (Int × Int)) : Bool := (List.range l.length).all fun k => match l[k]? with
  | some p => decide (0 ≤ p.1) && decide (p.1 < 256) && decide (0 ≤ p.2) && decide (p.2 < 256) && decide ((tabIn (l.take k)).set p.1.toNat p.2 = tabIn (l.take (k + 1)))
  | none => false
theorem swapL_le (page : Int) : (swapL page).length ≤ 7 := by
  rcases swapL_cases page with h | h | h <;> rw [h] <;> decide
theorem swOk_swapL (page : Int) : swOk (swapL page) = true := by
  rcases swapL_cases page with h | h | h <;> rw [h] <;> decide +kernel
theorem plain_bounds : plainL.all (fun x => decide (0 ≤ x) && decide (x < 256)) = true := by decide +kernel
theorem plain_range {b : Int} (h0 : 0 ≤ b) (h1 : b < 256) : ∃ x, plainL[b.toNat]? = some x ∧ 0 ≤ x ∧ x < 256 := by
  have hl : b.toNat < plainL.length := by rw [plainL_length]; omega
  refine ⟨plainL[b.toNat], by simp [hl], ?_⟩
  have := List.all_eq_true.1 plain_bounds plainL[b.toNat] (List.getElem_mem hl)
  simpa using this
theorem plain_get {i : Nat} {x : Int} (h : plainL[i]? = some x) : 0 ≤ x ∧ x < 256 := by
  have hl : i < plainL.length := (List.getElem?_eq_some_iff.1 h).1
  have := List.all_eq_true.1 plain_bounds x (List.mem_of_getElem? h)
  simpa using this
theorem swap_get {page : Int} {k : Nat} {p : Int × Int} (h : (swapL page)[k]? = some p) :
    0 ≤ p.1 ∧ p.1 < 256 ∧ 0 ≤ p.2 ∧ p.2 < 256 ∧ (tabIn ((swapL page).take k)).set p.1.toNat p.2 = tabIn ((swapL page).take (k + 1)) := by
  have hl : k < (swapL page).length := (List.getElem?_eq_some_iff.1 h).1
  have := List.all_eq_true.1 (swOk_swapL page) k (by simpa using hl)
  rw [h] at this
  simp only [Bool.and_eq_true, decide_eq_true_eq] at this
  exact ⟨this.1.1.1.1, this.1.1.1.2, this.1.1.2, this.1.2, this.2⟩
theorem tabIn_length (l : List (Int × Int)) : (tabIn l).length = 256 := by simp [tabIn]
theorem tabIn_nil : tabIn [] = plainL := by decide +kernel
theorem tab_get {page : Int} {i : Nat} {x : Int} (h : (tab page)[i]? = some x) : i < 256 ∧ x = sign page i := by
  have hl : i < (tab page).length := (List.getElem?_eq_some_iff.1 h).1
  rw [tab, tabIn_length] at hl
  refine ⟨hl, ?_⟩
  simp only [tab, tabIn, List.getElem?_map, List.getElem?_range hl, Option.map_some, Option.some.injEq] at h
  exact h.symm
def ndB : List Nat → Nat → Bool
  | [], _ => true
  | x :: xs, m => (match m.testBit x with | true => false | false => ndB xs (m ||| (1 <<< x)))
theorem ndB_spec : ∀ (l : List Nat) (m : Nat), ndB l m = true → l.Nodup ∧ ∀ x ∈ l, m.testBit x = false
  | [], m, _ => ⟨List.nodup_nil, fun x hx => by cases hx⟩
  | x :: xs, m, h => by
    simp only [ndB] at h
    split at h
    · cases h
    · rename_i hx
      obtain ⟨h1, h2⟩ := ndB_spec xs _ h
      have h3 : ∀ y ∈ xs, m.testBit y = false ∧ x ≠ y := by
        intro y hy
        have := h2 y hy
        rw [Nat.testBit_or, Bool.or_eq_false_iff] at this
        refine ⟨this.1, fun e => ?_⟩
        subst e
        have h4 := this.2
        rw [Nat.one_shiftLeft, Nat.testBit_two_pow_self] at h4
        cases h4
      refine ⟨List.nodup_cons.2 ⟨fun hm => (h3 x hm).2 rfl, h1⟩, ?_⟩
      intro y hy
      rcases List.mem_cons.1 hy with rfl | hy
      · exact hx
      · exact (h3 y hy).1
def tabOk (l : List (Int × Int)) : Bool := (tabIn l).all (fun x => decide (0 ≤ x) && decide (x < 256)) && ndB ((tabIn l).map Int.toNat) 0
theorem tabOk_swapL (page : Int) : tabOk (swapL page) = true := by
  rcases swapL_cases page with h | h | h <;> rw [h] <;> decide +kernel
theorem tab_range {page : Int} {x : Int} (h : x ∈ tab page) : 0 ≤ x ∧ x < 256 := by
  have := tabOk_swapL page
  simp only [tabOk, Bool.and_eq_true] at this
  simpa using List.all_eq_true.1 this.1 x h
theorem tab_nodup (page : Int) : ((tab page).map Int.toNat).Nodup := by
  have := tabOk_swapL page
  simp only [tabOk, Bool.and_eq_true] at this
  exact (ndB_spec _ _ this.2).1
theorem sign_range {page b : Int} (h0 : 0 ≤ b) (h1 : b < 256) : 0 ≤ sign page b ∧ sign page b < 256 := by
  apply tab_range (page := page)
  have : sign page ((b.toNat : Nat) : Int) ∈ tab page := List.mem_map.2 ⟨b.toNat, by simp; omega, rfl⟩
  rw [Int.toNat_of_nonneg h0] at this
  exact this
theorem tab_at (page : Int) {i : Nat} (h : i < 256) : (tab page)[i]? = some (sign page i) := by simp [tab, tabIn, List.getElem?_map, List.getElem?_range h, sign]
theorem sign_inj {page a b : Int} (a0 : 0 ≤ a) (a1 : a < 256) (b0 : 0 ≤ b) (b1 : b < 256) (h : sign page a = sign page b) : a = b := by
  have hn := tab_nodup page
  have ha : ((tab page).map Int.toNat)[a.toNat]? = some (sign page a).toNat := by
    rw [List.getElem?_map, tab_at page (by omega), Int.toNat_of_nonneg a0]; rfl
  have hb : ((tab page).map Int.toNat)[b.toNat]? = some (sign page a).toNat := by
    rw [List.getElem?_map, tab_at page (by omega), Int.toNat_of_nonneg b0, h]; rfl
  obtain ⟨la, ea⟩ := List.getElem?_eq_some_iff.1 ha
  obtain ⟨lb, eb⟩ := List.getElem?_eq_some_iff.1 hb
  have := (List.getElem_inj hn).1 (ea.trans eb.symm)
  omega
/-- The byte of a sign. -/
def byteOf (page r : Int) : Option Nat := (List.range 256).find? fun b => sign page b == r
theorem sign_none {page b x : Int} (h : (swapL page).find? (fun p => p.1 == b) = none) (hx : plainL[b.toNat]? = some x) : x = sign page b := by
  simp [sign, signIn, h, List.getD, hx]
theorem sign_some {page b : Int} {p : Int × Int} (h : (swapL page).find? (fun p => p.1 == b) = some p) : p.2 = sign page b := by
  simp [sign, signIn, h]
theorem byte_step {page r : Int} {k : Nat} (h : (List.range k).find? (fun b : Nat => sign page b == r) = none) (hn : ¬ sign page k = r) : (List.range (k + 1)).find? (fun b : Nat => sign page b == r) = none := by
  rw [List.range_succ, List.find?_append, h]; simp [hn]
theorem byte_some {page r : Int} {k : Nat} (h : (List.range k).find? (fun b : Nat => sign page b == r) = none) (hk : k < 256) (hn : sign page k = r) : byteOf page r = some k := by
  unfold byteOf
  have e : 256 = (k + 1) + (256 - (k + 1)) := by omega
  rw [e, List.range_add, List.find?_append, List.range_succ, List.find?_append, h]; simp [hn]
def upper (page b : Int) : Int := if sign page b < 97 ∨ 122 < sign page b then b else ((byteOf page (sign page b - 32)).getD 0 : Nat)
/-! The document's list: two digits each -/
def hexU (d : Int) : UInt8 := if d < 10 then (48 + d).toNat.toUInt8 else (55 + d).toNat.toUInt8
def listL : List UInt8 := plainL.flatMap fun x => [hexU (x / 16), hexU (x % 16)]
def listS : ByteArray := ⟨listL.toArray⟩
theorem listS_size : listS.size = 512 := by decide +kernel
def value (c : Int) : Int := if 65 ≤ c then c - 55 else c - 48
def hexOk : Bool := (List.range 16).all fun d => decide (value ((hexU (d : Int)).toNat : Int) = d)
theorem hexOk_true : hexOk = true := by decide +kernel
theorem value_hex {d : Int} (h0 : 0 ≤ d) (h1 : d < 16) : value ((hexU d).toNat : Int) = d := by
  have := List.all_eq_true.1 hexOk_true d.toNat (by simp; omega)
  rw [Int.toNat_of_nonneg h0] at this
  simpa using this
theorem flat2 {α β : Type} {f g : α → β} : ∀ (l : List α) (i : Nat), (l.flatMap fun x => [f x, g x])[2 * i]? = (l[i]?).map f ∧ (l.flatMap fun x => [f x, g x])[2 * i + 1]? = (l[i]?).map g
  | [], i => by simp
  | x :: l, i => by
    have e : ((x :: l).flatMap fun x => [f x, g x]) = f x :: g x :: l.flatMap fun x => [f x, g x] := rfl
    rw [e]
    cases i with
    | zero => simp
    | succ i =>
      have := flat2 (f := f) (g := g) l i
      have e1 : 2 * (i + 1) = (2 * i + 1) + 1 := by omega
      rw [e1]
      simpa using this
theorem value_at0 {b pb : Int} {x : UInt8} (h0 : 0 ≤ b) (hp : plainL[b.toNat]? = some pb) (hx : listS.data.toList[(2 * b).toNat]? = some x) : value (x.toNat : Int) = pb / 16 := by
  have e : (2 * b).toNat = 2 * b.toNat := by omega
  have hl : listS.data.toList = listL := rfl
  rw [e, hl, listL, (flat2 plainL b.toNat).1, hp] at hx
  cases hx
  have := plain_get hp
  exact value_hex (by omega) (by omega)
theorem value_at1 {b pb : Int} {x : UInt8} (h0 : 0 ≤ b) (hp : plainL[b.toNat]? = some pb) (hx : listS.data.toList[(2 * b + 1).toNat]? = some x) : value (x.toNat : Int) = pb % 16 := by
  have e : (2 * b + 1).toNat = 2 * b.toNat + 1 := by omega
  have hl : listS.data.toList = listL := rfl
  rw [e, hl, listL, (flat2 plainL b.toNat).2, hp] at hx
  cases hx
  have := plain_get hp
  exact value_hex (by omega) (by omega)
theorem value_bounds {c : Int} (h0 : 0 ≤ c) (h1 : c < 256) : -48 ≤ value c ∧ value c < 256 := by unfold value; split <;> omega
theorem map_get {α β : Type} {f : α → β} {l : List α} {i : Nat} {y : β} (h : (l.map f)[i]? = some y) : ∃ x, l[i]? = some x ∧ f x = y := by
  rw [List.getElem?_map] at h
  cases hx : l[i]? with
  | none => rw [hx] at h; cases h
  | some x => rw [hx] at h; exact ⟨x, rfl, by cases h; rfl⟩
end Gs
