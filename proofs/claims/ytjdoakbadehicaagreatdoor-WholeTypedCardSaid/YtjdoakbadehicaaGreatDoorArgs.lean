/-
  What a row of a statement tells of an argument that is a struct without pointers, or a slice of such ones. No program, no condition.
-/
import Derived.Test.YtjdoakbadehicaaGreatDoorRow
import Derived.ChangeSame
import Derived.Deep.Slices
namespace Go.Sh
open Go Go.ChangeShapes Go.WideShapes Go.RowKit
/-- A cell that a leaf may hold. -/
def LeafV : TypeDesc → Value → Prop
  | .int k, v => ∃ n, v = .int k n ∧ (Lit.int k n).wf = true
  | .bool, v => ∃ b, v = .bool b
  | .string, v => ∃ s, v = .string s ∧ s.size ≤ maxLen
  | _, _ => False
def LeafVs : List TypeDesc → List Value → Prop
  | [], vs => vs = []
  | d :: ds, vs => ∃ v vs', vs = v :: vs' ∧ LeafV d v ∧ LeafVs ds vs'
theorem LeafVs.len : ∀ {ds : List TypeDesc} {vs : List Value}, LeafVs ds vs → vs.length = ds.length
  | [], _, h => by cases h; rfl
  | d :: ds, _, ⟨v, vs', h, _, h2⟩ => by subst h; simp [LeafVs.len h2]
theorem LeafVs.append : ∀ {ds es : List TypeDesc} {vs us : List Value}, LeafVs ds vs → LeafVs es us → LeafVs (ds ++ es) (vs ++ us)
  | [], _, _, _, h, h2 => by cases h; exact h2
  | d :: ds, _, _, _, ⟨v, vs', h, h1, h3⟩, h2 => by subst h; exact ⟨v, vs' ++ _, rfl, h1, LeafVs.append h3 h2⟩
/-- A type's leaves, where it is a leaf or a struct of such types. -/
def leafD : TypeDesc → Bool
  | .int _ | .bool | .string => true
  | _ => false
def flatF (P : Program) (rec : TypeId → Option (List TypeDesc)) : List Field → List TypeDesc → Option (List TypeDesc)
  | [], acc => some acc
  | f :: fs, acc => if f.offset = acc.length then
      match rec f.type with
      | some l => if P.cellsOf f.type = l.length then flatF P rec fs (acc ++ l) else none
      | none => none
    else none
def flat (P : Program) : Nat → TypeId → Option (List TypeDesc)
  | 0, _ => none
  | n + 1, t =>
    match P.underlying t with
    | some (.struct fs) => match flatF P (flat P n) fs.toList [] with
      | some l => if P.cellsOf t = l.length then some l else none
      | none => none
    | some d => if leafD d then some [d] else none
    | none => none
section
variable {H : Type} {enc : TypeId × Value → H} {P : Program} {w : World} {base : Nat} {spare : Nat → Bool} {held : Bool}
theorem trod_leaf {d : TypeDesc} {t : TypeId} {fuel : Nat} {cs : List Value} {x : DataW H × List MemPlace} (ht : P.underlying t = some d) (hd : leafD d = true) (h : DataW.trod enc P w base spare held fuel t cs = some x) : LeafVs [d] cs := by
  cases fuel with
  | zero => simp [DataW.trod] at h
  | succ fuel =>
    cases d <;> simp only [leafD, Bool.false_eq_true] at hd <;> unfold DataW.trod at h <;> rw [ht] at h <;> dsimp only at h
    all_goals
      match cs, h with
      | [], h => simp at h
      | _ :: _ :: _, h => simp at h
      | [v], h =>
        cases v <;> simp only [reduceCtorEq] at h
        first
          | exact ⟨_, [], rfl, ⟨_, rfl⟩, rfl⟩
          | (split at h
             · rename_i hc
               first
                 | (obtain ⟨rfl, hc⟩ := hc; exact ⟨_, [], rfl, ⟨_, rfl, hc⟩, rfl⟩)
                 | exact ⟨_, [], rfl, ⟨_, rfl, hc⟩, rfl⟩
             · cases h)
theorem flatF_sound {rec : TypeId → Option (List TypeDesc)} {fuel : Nat} {cs : List Value}
    (hr : ∀ t ds cs x, rec t = some ds → DataW.trod enc P w base spare held fuel t cs = some x → LeafVs ds cs) :
    ∀ (fs : List Field) (acc ds : List TypeDesc), flatF P rec fs acc = some ds → (∀ f ∈ fs, ∃ x, DataW.trod enc P w base spare held fuel f.type ((cs.drop f.offset).take (P.cellsOf f.type)) = some x) →
      LeafVs acc (cs.take acc.length) → LeafVs ds (cs.take ds.length)
  | [], acc, ds, h, _, h2 => by simp only [flatF, Option.some.injEq] at h; subst h; exact h2
  | f :: fs, acc, ds, h, hx, h2 => by
    unfold flatF at h
    split at h
    · rename_i ho
      split at h
      · rename_i l hl
        split at h
        · rename_i hc
          obtain ⟨x, h3⟩ := hx f (by simp)
          have h4 := hr _ _ _ _ hl h3
          refine flatF_sound hr fs _ ds h (fun g hg => hx g (by simp [hg])) ?_
          rw [List.length_append, List.take_add, ← ho]
          rw [ho, hc] at h4
          rw [ho]
          exact h2.append h4
        · cases h
      · cases h
    · cases h
theorem flat_sound : ∀ (n : Nat) (fuel : Nat) (t : TypeId) (ds : List TypeDesc) (cs : List Value) (x : DataW H × List MemPlace), flat P n t = some ds → DataW.trod enc P w base spare held fuel t cs = some x → LeafVs ds cs
  | 0, _, _, _, _, _, h, _ => by simp [flat] at h
  | n + 1, fuel, t, ds, cs, x, h, hx => by
    unfold flat at h
    split at h
    · rename_i fs hu
      split at h
      · rename_i l hl
        split at h
        · rename_i hc
          simp only [Option.some.injEq] at h
          subst h
          obtain ⟨xs, m, _, rfl, hlen, hxs, hf⟩ := DataW.trod_struct hu hx
          have key := flatF_sound (enc := enc) (w := w) (base := base) (spare := spare) (held := held) (rec := flat P n) (fuel := m) (cs := cs) (fun t ds cs x h1 h2 => flat_sound n m t ds cs x h1 h2) fs.toList [] l hl (fun f hm => by
            obtain ⟨i, hi, rfl⟩ := List.getElem_of_mem hm
            have h5 := hf i fs.toList[i] (by rw [← Array.getElem?_toList, List.getElem?_eq_getElem hi])
            rw [List.getElem?_eq_getElem (by simp at hi; omega)] at h5
            exact ⟨_, h5⟩) rfl
          rw [← hc, ← hlen, List.take_length] at key
          exact key
        · cases h
      · cases h
    · rename_i d hd hu
      split at h
      · rename_i hl
        simp only [Option.some.injEq] at h
        subst h
        exact trod_leaf hu hl hx
      · cases h
    · cases h
/-- A slice of flat elements that came in: it can be read as the row of what they are. -/
theorem row_flat {α : Type} {f : α → List Value} {m : Nat} {Q : α → Prop} (hf : Enc f m) {t e : TypeId} {n : Nat} {ds : List TypeDesc} (ht : P.underlying t = some (.slice e)) (hfl : flat P n e = some ds) (hc : P.cellsOf e = m)
    (hd : ∀ cs, LeafVs ds cs → ∃ a, cs = f a ∧ Q a) {A : Option Addr} {len cap : Nat} {d : DataW H} {ps : List MemPlace} (h : DataW.Trod enc P w base spare held t (.slice A len cap) d ps) :
    ∃ l : List α, Rd w A (rows f l) ∧ (∀ a ∈ l, Q a) ∧ len = l.length ∧ len ≤ maxLen := by
  obtain ⟨fuel, hf1⟩ := h
  rcases Go.Deep.open_slice ht hf1 with ⟨hcs, _⟩ | ⟨a, len', cap', m', n', D, Pl, hcs, _, hl, hm, hmm, _, hx⟩
  · simp only [Value.cells, List.cons.injEq, Value.slice.injEq, and_true] at hcs
    obtain ⟨rfl, rfl, rfl⟩ := hcs
    exact ⟨[], .inl rfl, (fun a ha => by cases ha), rfl, Nat.zero_le _⟩
  · simp only [Value.cells, List.cons.injEq, Value.slice.injEq, and_true] at hcs
    obtain ⟨rfl, rfl, rfl⟩ := hcs
    have hlm : len ≤ m' := by rw [hmm]; split <;> omega
    have key : ∀ k, k ≤ len → ∃ l : List α, l.length = k ∧ (∀ a ∈ l, Q a) ∧ ∀ i x, l[i]? = some x → w.cells? base (a.add (i * m)) m = some (f x) := by
      intro k
      induction k with
      | zero => intro _; exact ⟨[], rfl, (fun a ha => by cases ha), fun i x h => by simp at h⟩
      | succ k ih =>
        intro hk
        obtain ⟨l, h1, h2, h3⟩ := ih (by omega)
        obtain ⟨cs', h4, h5⟩ := hx k (by omega)
        obtain ⟨y, rfl, hq⟩ := hd _ (flat_sound _ _ _ _ _ _ hfl h5)
        refine ⟨l ++ [y], by simp [h1], fun b hb => ?_, fun i x hi => ?_⟩
        · rcases List.mem_append.1 hb with hb | hb
          · exact h2 b hb
          · simp at hb; subst hb; exact hq
        · by_cases hik : i < l.length
          · rw [List.getElem?_append_left hik] at hi; exact h3 i x hi
          · rw [List.getElem?_append_right (by omega)] at hi
            have hi0 : i - l.length = 0 := by
              have := (List.getElem?_eq_some_iff.1 hi).1
              simp at this; omega
            rw [hi0] at hi
            simp at hi
            subst hi
            have : i = k := by omega
            subst this
            rw [hc] at h4; exact h4
    obtain ⟨l, h1, h2, h3⟩ := key len (Nat.le_refl _)
    refine ⟨l, .inr ⟨a, rfl, fun j hj => ?_⟩, h2, h1.symm, by omega⟩
    rw [rows_len hf] at hj
    have hm0 := hf.pos
    have hq : j / m < l.length := Nat.div_lt_of_lt_mul (by rw [Nat.mul_comm]; exact hj)
    have hr : j % m < m := Nat.mod_lt _ hm0
    have hj' : j = j / m * m + j % m := by have := Nat.div_add_mod j m; rw [Nat.mul_comm] at this; omega
    have hxl : l[j / m]? = some l[j / m] := List.getElem?_eq_getElem hq
    obtain ⟨_, _, h6⟩ := World.cells?_some (h3 _ _ hxl)
    have h7 := h6 (j % m) hr
    rw [add_add, ← hj'] at h7
    rw [h7, ← rows_at hf hxl, List.getElem?_take, if_pos hr, List.getElem?_drop, ← hj']
/-- A flat struct that came in. -/
theorem agg_flat {α : Type} {f : α → List Value} {Q : α → Prop} {r : Reach} {b0 : Nat} {t : TypeId} {n : Nat} {fs : Array Field} {ds : List TypeDesc} (ht : P.underlying t = some (.struct fs)) (hfl : flat P n t = some ds) (hd : ∀ cs, LeafVs ds cs → ∃ a, cs = f a ∧ Q a)
    {v : Value} {d : DataW H} {ps : List MemPlace} (hval : Value.okWide P w r b0 t v) (h : DataW.Trod enc P w base spare held t v d ps) : ∃ a, v = .agg (f a).toArray ∧ Q a := by
  obtain ⟨cs, rfl, _⟩ := okWide_struct ht hval
  obtain ⟨fuel, h1⟩ := h
  obtain ⟨a, h2, h3⟩ := hd _ (flat_sound _ _ _ _ _ _ hfl h1)
  refine ⟨a, ?_, h3⟩
  rw [← h2]
  simp [Value.cells]
end
/-! Integers. -/
def iv (k : IntKind) (x : Int) : List Value := [.int k x]
theorem encI (k : IntKind) : Enc (iv k) 1 := ⟨fun _ => rfl, fun a u hu => by
  simp only [iv, List.mem_singleton] at hu; subst hu; rfl, by decide⟩
theorem int_leaf (k : IntKind) : ∀ cs, LeafVs [.int k] cs → ∃ a, cs = iv k a ∧ (Lit.int k a).wf = true := by
  rintro cs ⟨_, _, rfl, ⟨a, rfl, ha⟩, rfl⟩
  exact ⟨a, rfl, ha⟩
theorem rows_iv (k : IntKind) (l : List Int) : rows (iv k) l = vals k l := by
  induction l with
  | nil => rfl
  | cons a l ih => show iv k a ++ rows (iv k) l = _; rw [ih]; rfl
end Go.Sh
