/-
  Reading by places, in plain Lean. No condition.
-/
import Derived.Test.YtkjkmahpkfbbnaaDoorGramSl
set_option linter.unusedVariables false
namespace Gs
open Go Go.Sh
theorem drop_c {bs : List Int} {i : Nat} {x : Int} (hx : bs[i]? = some x) : bs.drop i = x :: bs.drop (i + 1) := by
  have hi : i < bs.length := (List.getElem?_eq_some_iff.1 hx).1
  have e : x = bs[i] := (List.getElem?_eq_some_iff.1 hx).2.symm
  rw [e]; exact List.drop_eq_getElem_cons hi
theorem drop_2 {bs : List Int} {i : Nat} {x y : Int} (hx : bs[i]? = some x) (hy : bs[i + 1]? = some y) : bs.drop i = x :: y :: bs.drop (i + 2) := by
  rw [drop_c hx, drop_c hy]
theorem drop_1e {bs : List Int} {i : Nat} {x : Int} (hx : bs[i]? = some x) (h : bs.length ≤ i + 1) : bs.drop i = [x] := by
  rw [drop_c hx, List.drop_eq_nil_of_le h]
theorem rc_p {bs : List Int} {i : Nat} {x : Int} (hx : bs[i]? = some x) (h : plainB x = true) : cellF (bs.drop i) = .ok (⟨x, false, false, 0, 0⟩, bs.drop (i + 1)) := by rw [drop_c hx]; exact cellF_p h _
theorem rc_21 {bs : List Int} {i : Nat} {x : Int} (hx : bs[i]? = some x) (h : plainB x = false) (h8 : x ≠ 8) : cellF (bs.drop i) = .error 21 := by rw [drop_c hx]; exact cellF_21 h h8
theorem rc_20 {bs : List Int} {i : Nat} {x : Int} (hx : bs[i]? = some x) (h8 : x = 8) (h : bs.length ≤ i + 1) : cellF (bs.drop i) = .error 20 := by rw [drop_1e hx h, h8]; rfl
theorem rc_64 {bs : List Int} {i : Nat} {x y : Int} (hx : bs[i]? = some x) (h8 : x = 8) (hy : bs[i + 1]? = some y) (h : y < 64) : cellF (bs.drop i) = .error 21 := by rw [drop_2 hx hy, h8, cellF_8, if_pos h]
theorem rc_8 {bs : List Int} {i : Nat} {x y : Int} (hx : bs[i]? = some x) (h8 : x = 8) (hy : bs[i + 1]? = some y) (h : ¬ y < 64) : cellF (bs.drop i) = .ok (⟨y, true, false, 0, 0⟩, bs.drop (i + 2)) := by rw [drop_2 hx hy, h8, cellF_8, if_neg h]
theorem bufF_short {bs : List Int} (h : bs.length < 3) : bufF bs = .error 20 := by
  match bs, h with
  | [], _ => rfl
  | [a], _ => rfl
  | [a, b], _ => rfl
theorem bufF_3e {bs : List Int} {a b c e : Int} (ha : bs[0]? = some a) (hb : bs[1]? = some b) (hc : bs[2]? = some c) (h : bcellsF (bs.drop 3) = .error e) : bufF bs = .error e := by
  have e1 : bs = a :: b :: c :: bs.drop 3 := by
    have h0 := drop_c ha; rw [drop_c hb, drop_c hc] at h0; exact h0
  rw [e1]; exact bufF_b (r := b :: c :: bs.drop 3) (r2 := bs.drop 3) rfl rfl h
theorem bufF_3 {bs : List Int} {a b c : Int} {xs : List Cell} (ha : bs[0]? = some a) (hb : bs[1]? = some b) (hc : bs[2]? = some c) (h : bcellsF (bs.drop 3) = .ok xs) : bufF bs = .ok (a, decodeM b c, xs) := by
  have e1 : bs = a :: b :: c :: bs.drop 3 := by
    have h0 := drop_c ha; rw [drop_c hb, drop_c hc] at h0; exact h0
  rw [e1]; exact bufF_ok (r := b :: c :: bs.drop 3) (r2 := bs.drop 3) rfl rfl h
theorem bs_3 {bs : List Int} (h : 3 ≤ bs.length) : ∃ a b c, bs[0]? = some a ∧ bs[1]? = some b ∧ bs[2]? = some c := by
  match bs, h with
  | a :: b :: c :: r, _ => exact ⟨a, b, c, rfl, rfl, rfl⟩
theorem rb_29 {bs : List Int} {i : Nat} {x y : Int} (hx : bs[i]? = some x) (h : x = 29) (hy : bs[i + 1]? = some y) : bcellF (bs.drop i) = .ok (⟨y % 64, false, true, 0, 0⟩, bs.drop (i + 2)) := by rw [drop_2 hx hy, h]; rfl
theorem rb_29e {bs : List Int} {i : Nat} {x : Int} (hx : bs[i]? = some x) (h : x = 29) (he : bs.length ≤ i + 1) : bcellF (bs.drop i) = .error 20 := by rw [drop_1e hx he, h]; rfl
theorem rb_no {bs : List Int} {i : Nat} {x : Int} (hx : bs[i]? = some x) (h : ¬ x = 29) : bcellF (bs.drop i) = cellF (bs.drop i) := bcellF_no (x := x) (by rw [drop_c hx]; rfl) h
theorem drop_ne {bs : List Int} {i : Nat} (h : i < bs.length) : bs.drop i ≠ [] := fun e => by
  have := congrArg List.length e; rw [List.length_drop] at this; simp at this; omega
end Gs
namespace Gs
open Go Go.Sh
theorem cnt_up {N a : Nat} {b : Int} {v v' : Value} (h : v = .int .i64 (a : Nat)) (h' : v' = .int .i64 b) (hab : (a : Int) < b) (ha : a < N) : N - (RowKit.intOf v').toNat < N - (RowKit.intOf v).toNat := by
  subst h; subst h'
  simp only [RowKit.intOf]
  omega
end Gs
namespace Gs
open Go Go.Sh
theorem cut3 {bs : List Int} {a b c : Int} (ha : bs[0]? = some a) (hb : bs[1]? = some b) (hc : bs[2]? = some c) : bs = a :: b :: c :: bs.drop 3 := by
  have h0 := drop_c ha; rw [drop_c hb, drop_c hc] at h0; exact h0
theorem inbF_3e {bs : List Int} {a b c e : Int} (ha : bs[0]? = some a) (hb : bs[1]? = some b) (hc : bs[2]? = some c) (h : itemsF (bs.drop 3) = .error e) : inbF bs = .error e := by
  rw [cut3 ha hb hc, Gs.inbF_3, h]
theorem inbF_3k {bs : List Int} {a b c : Int} {xs : List (Int × List Cell)} (ha : bs[0]? = some a) (hb : bs[1]? = some b) (hc : bs[2]? = some c) (h : itemsF (bs.drop 3) = .ok xs) : inbF bs = .ok ⟨a, false, decodeM b c, xs⟩ := by
  rw [cut3 ha hb hc, Gs.inbF_3, h]
theorem inbF_02 {bs : List Int} (h : bs.length = 0 ∨ bs.length = 2) : inbF bs = .error 20 := by
  match bs, h with
  | [], _ => rfl
  | [a, b], _ => rfl
theorem inbF_1 {bs : List Int} {a : Int} (ha : bs[0]? = some a) (h : bs.length = 1) : inbF bs = .ok ⟨a, true, 0, []⟩ := by
  match bs, h with
  | [x], _ => cases ha; rfl
theorem ri_20 {bs : List Int} {i : Nat} {x : Int} (hx : bs[i]? = some x) (h : x = 17) (he : bs.length ≤ i + 2) : itemF (bs.drop i) = .error 20 := by
  rw [drop_c hx, h, itemF_17r]
  have : (bs.drop (i + 1)).length ≤ 1 := by rw [List.length_drop]; omega
  match bs.drop (i + 1), this with
  | [], _ => rfl
  | [a], _ => rfl
theorem ri_17 {bs : List Int} {i : Nat} {x y z : Int} (hx : bs[i]? = some x) (h : x = 17) (hy : bs[i + 1]? = some y) (hz : bs[i + 2]? = some z) : itemF (bs.drop i) = inIt (decodeM y z) (cellsF (bs.drop (i + 3))) := by
  rw [drop_2 hx hy, drop_c hz, h, itemF_17]; show (match cellsF (bs.drop (i + 3)) with | .error e => _ | .ok (xs, r) => _) = _; cases cellsF (bs.drop (i + 3)) <;> rfl
theorem ri_no {bs : List Int} {i : Nat} {x : Int} (hx : bs[i]? = some x) (h : ¬ x = 17) : itemF (bs.drop i) = inIt (-1) (cellsF (bs.drop i)) := itemF_no (x := x) (by rw [drop_c hx]; rfl) h
theorem hd_on {bs : List Int} {i : Nat} {x : Int} (hx : bs[i]? = some x) (h : x ≠ 17) : ¬ ((bs.drop i).head? = none ∨ (bs.drop i).head? = some 17) := by rw [drop_c hx]; simpa using h
theorem hd_17 {bs : List Int} {i : Nat} {x : Int} (hx : bs[i]? = some x) (h : x = 17) : (bs.drop i).head? = none ∨ (bs.drop i).head? = some 17 := by rw [drop_c hx, h]; exact .inr rfl
theorem hd_no {bs : List Int} {i : Nat} (h : bs.length ≤ i) : (bs.drop i).head? = none ∨ (bs.drop i).head? = some 17 := by rw [List.drop_eq_nil_of_le h]; exact .inl rfl
end Gs
namespace Gs
open Go Go.Sh
theorem dm_bd {a b : Int} (ha : 0 ≤ a ∧ a ≤ 255) (hb : 0 ≤ b ∧ b ≤ 255) : 0 ≤ decodeM a b ∧ decodeM a b ≤ 65535 := by unfold decodeM; split <;> omega
theorem placeF_rng {l r : List Int} {p : Int} (hb : byL l) (h : placeF l = .ok (p, r)) : (0 ≤ p ∧ p ≤ 65535) ∧ byL r := by
  unfold placeF at h
  split at h
  · cases h
    exact ⟨dm_bd (hb _ (by simp)) (hb _ (by simp)), hb.tail.tail⟩
  · cases h
theorem itemF_rng {l r : List Int} {x : Int × List Cell} (hb : byL l) (h : itemF l = .ok (x, r)) : -1 ≤ x.1 ∧ x.1 ≤ 65535 := by
  unfold itemF at h
  split at h
  · split at h
    · cases h
    · rename_i h1
      split at h
      · cases h
      · cases h
        have := (placeF_rng (by cases l with | nil => exact hb | cons a l => exact hb.tail) h1).1
        dsimp only; omega
  · split at h
    · cases h
    · cases h; exact ⟨Int.le_refl _, by show (-1 : Int) ≤ 65535; decide⟩
theorem itemsF_rng : ∀ {l : List Int} {xs : List (Int × List Cell)}, byL l → itemsF l = .ok xs → ∀ x ∈ xs, -1 ≤ x.1 ∧ x.1 ≤ 65535
  | l, xs, hb, h => by
    unfold itemsF at h
    split at h
    · cases h; intro x hx; cases hx
    · rename_i hne
      split at h
      · cases h
      · rename_i x r h1
        have hl := itemF_len hne h1
        split at h
        · cases h
        · rename_i xs2 h2
          cases h
          intro y hy
          rcases List.mem_cons.1 hy with rfl | hy
          · exact itemF_rng hb h1
          · exact itemsF_rng (itemF_may hb hne h1).2.2.1 h2 y hy
termination_by l => l.length
decreasing_by assumption
theorem inbF_rng {l : List Int} {q : Inb} (hb : byL l) (h : inbF l = .ok q) : (0 ≤ q.cur ∧ q.cur ≤ 65535) ∧ ∀ x ∈ q.items, -1 ≤ x.1 ∧ x.1 ≤ 65535 := by
  cases l with
  | nil => cases h
  | cons a r =>
    change (if r = [] then (Except.ok (⟨a, true, 0, []⟩ : Inb) : Except Int Inb) else match placeF r with | .error e => .error e | .ok (c, r') => match itemsF r' with | .error e => .error e | .ok xs => .ok ⟨a, false, c, xs⟩) = Except.ok q at h
    split at h
    · cases h; exact ⟨⟨Int.le_refl _, by show (0 : Int) ≤ 65535; decide⟩, fun x hx => by cases hx⟩
    · split at h
      · cases h
      · rename_i hp
        split at h
        · cases h
        · rename_i hx
          cases h
          have h1 := placeF_rng hb.tail hp
          exact ⟨h1.1, itemsF_rng h1.2 hx⟩
theorem inbV_rng {l : List Int} (hb : byL l) : (0 ≤ (inbV l).cur ∧ (inbV l).cur ≤ 65535) ∧ (∀ x ∈ (inbV l).items, -1 ≤ x.1 ∧ x.1 ≤ 65535) ∧ wsum (inbV l).items ≤ 5 * l.length := by
  unfold inbV
  cases hr : inbF l with
  | ok q => exact ⟨(inbF_rng hb hr).1, (inbF_rng hb hr).2, inbF_sum hr⟩
  | error e => exact ⟨⟨Int.le_refl _, by show (0 : Int) ≤ 65535; decide⟩, (fun x hx => by cases hx), Nat.zero_le _⟩
end Gs
namespace Gs
open Go Go.Sh
theorem bcellsF_sum : ∀ {l : List Int} {xs : List Cell}, bcellsF l = .ok xs → xs.length ≤ l.length
  | l, xs, h => by
    unfold bcellsF at h
    split at h
    · cases h; simp
    · rename_i hne
      split at h
      · cases h
      · rename_i x r h1
        have hl := bcellF_len h1
        split at h
        · cases h
        · rename_i xs2 h2
          cases h
          have := bcellsF_sum h2
          simp only [List.length_cons]; omega
termination_by l => l.length
decreasing_by assumption
theorem bufV_len {l : List Int} : (bufV l).2.2.length ≤ l.length := by
  unfold bufV
  cases hr : bufF l with
  | error e => exact Nat.zero_le _
  | ok q =>
    cases l with
    | nil => cases hr
    | cons a r =>
      change (match placeF r with | .error e => Except.error e | .ok (c, r') => match bcellsF r' with | .error e => .error e | .ok xs => .ok (a, c, xs)) = Except.ok q at hr
      split at hr
      · cases hr
      · rename_i hp
        split at hr
        · cases hr
        · rename_i hx
          cases hr
          have h1 := placeF_len hp
          have h2 := bcellsF_sum hx
          simp only [List.length_cons]; omega
end Gs
