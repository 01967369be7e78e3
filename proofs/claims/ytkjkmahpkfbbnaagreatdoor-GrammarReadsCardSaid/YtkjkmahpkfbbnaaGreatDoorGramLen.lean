/-
  How long what is written is; what is read back. No condition.
-/
import Derived.Test.YtkjkmahpkfbbnaaGreatDoorGramMem2
set_option linter.unusedVariables false
namespace Gs
open Go Go.Sh
theorem cellsF_sum : ∀ {l : List Int} {xs : List Cell} {r : List Int}, cellsF l = .ok (xs, r) → xs.length + r.length ≤ l.length
  | l, xs, r, h => by
    unfold cellsF at h
    split at h
    · cases h; simp
    · split at h
      · cases h
      · rename_i x r1 h1
        split at h
        · cases h
        · rename_i xs2 r2 h2
          cases h
          have hl := cellF_len h1
          have := cellsF_sum h2
          simp only [List.length_cons]; omega
termination_by l => l.length
decreasing_by assumption
theorem itemF_sum {l : List Int} {x : Int × List Cell} {r : List Int} (h : itemF l = .ok (x, r)) : x.2.length + r.length ≤ l.length := by
  unfold itemF at h
  split at h
  · split at h
    · cases h
    · rename_i h1
      split at h
      · cases h
      · rename_i h2
        cases h
        have a := placeF_len h1
        have b := cellsF_sum h2
        have : l.tail.length ≤ l.length := by simp
        dsimp only; omega
  · split at h
    · cases h
    · rename_i h2
      cases h
      exact cellsF_sum h2
def wsum (xs : List (Int × List Cell)) : Nat := (xs.map fun x => 3 + 2 * x.2.length).sum
theorem itemsF_sum : ∀ {l : List Int} {xs : List (Int × List Cell)}, itemsF l = .ok xs → wsum xs ≤ 5 * l.length
  | l, xs, h => by
    unfold itemsF at h
    split at h
    · cases h; simp [wsum]
    · rename_i hne
      split at h
      · cases h
      · rename_i x r h1
        split at h
        · cases h
        · rename_i xs2 h2
          cases h
          have hl := itemF_len hne h1
          have h3 := itemF_sum h1
          have h4 := itemsF_sum h2
          simp only [wsum, List.map_cons, List.sum_cons] at h4 ⊢; omega
termination_by l => l.length
decreasing_by assumption
theorem inbF_sum {l : List Int} {q : Inb} (h : inbF l = .ok q) : wsum q.items ≤ 5 * l.length := by
  cases l with
  | nil => cases h
  | cons a r =>
    change (if r = [] then Except.ok ⟨a, true, 0, []⟩ else match placeF r with | .error e => .error e | .ok (c, r') => match itemsF r' with | .error e => .error e | .ok xs => .ok ⟨a, false, c, xs⟩) = Except.ok q at h
    split at h
    · cases h; exact Nat.zero_le _
    · split at h
      · cases h
      · rename_i hp
        split at h
        · cases h
        · rename_i hx
          cases h
          have h1 := placeF_len hp
          have h2 := itemsF_sum hx
          simp only [List.length_cons]; omega
theorem wsum_mem {xs : List (Int × List Cell)} {x : Int × List Cell} (h : x ∈ xs) : 3 + 2 * x.2.length ≤ wsum xs := by
  induction xs with
  | nil => cases h
  | cons y xs ih =>
    simp only [wsum, List.map_cons, List.sum_cons] at ih ⊢
    rcases List.mem_cons.1 h with rfl | h
    · omega
    · have := ih h; omega
theorem wsum_len (xs : List (Int × List Cell)) : xs.length ≤ wsum xs := by
  induction xs with
  | nil => simp
  | cons x xs ih => simp only [wsum, List.map_cons, List.sum_cons, List.length_cons] at ih ⊢; omega
theorem wsum_le {m : Nat} {xs : List (Int × List Cell)} (h : ∀ x ∈ xs, x.2.length ≤ m) : wsum xs ≤ (3 + 2 * m) * xs.length := by
  induction xs with
  | nil => simp [wsum]
  | cons x xs ih =>
    have h1 := h x (List.mem_cons_self ..)
    have h2 := ih fun y hy => h y (List.mem_cons_of_mem _ hy)
    simp only [wsum, List.map_cons, List.sum_cons, List.length_cons, Nat.mul_add, Nat.mul_one] at h2 ⊢; omega
theorem itemW_len2 {x : Int × List Cell} {f : Bool} {n : Int} {l : List Int} (h : itemW x f n = .ok l) : l.length ≤ 3 + 2 * x.2.length := by
  have := itemW_len (x := x) (f := f) (n := n); rw [h] at this; simp only [okL] at this; omega
theorem itemsW_len {n : Int} : ∀ {xs : List (Int × List Cell)} {f : Bool} {l : List Int}, itemsW n f xs = .ok l → l.length ≤ wsum xs
  | [], f, l, h => by cases h; simp
  | x :: xs, f, l, h => by
    unfold itemsW at h
    split at h
    · cases h
    · rename_i l1 h1
      split at h
      · cases h
      · rename_i k h2
        cases h
        have a := itemW_len2 h1
        have b := itemsW_len h2
        simp only [wsum, List.map_cons, List.sum_cons, List.length_append] at b ⊢; omega
theorem writeM_len {i : Inb} {n : Int} {l : List Int} (h : writeM i n = .ok l) : l.length ≤ 3 + wsum i.items := by
  unfold writeM at h
  split at h
  · cases h; simp; omega
  · split at h
    · cases h
    · split at h
      · cases h
      · rename_i h2
        cases h
        have := itemsW_len h2
        simp only [List.length_cons]; omega
theorem Bs_app {a b : List Int} (ha : Bs a) (hb : Bs b) : Bs (a ++ b) := fun x hx => (List.mem_append.1 hx).elim (ha x) (hb x)
theorem Bs_cons {a : Int} {b : List Int} (ha : 0 ≤ a ∧ a ≤ 255) (hb : Bs b) : Bs (a :: b) := fun x hx => (List.mem_cons.1 hx).elim (fun e => e ▸ ha) (hb x)
theorem Bs_nil : Bs [] := fun x hx => by cases hx
theorem cellsW_Bs : ∀ {xs : List Cell} {l : List Int}, Cws xs → cellsW xs = .ok l → Bs l
  | [], l, _, h => by cases h; exact Bs_nil
  | c :: xs, l, hw, h => by
    unfold cellsW at h
    split at h
    · split at h
      · cases h
      · rename_i k hk
        cases h
        have hc := hw c (List.mem_cons_self ..)
        refine Bs_app ?_ (cellsW_Bs (fun x hx => hw x (List.mem_cons_of_mem _ hx)) hk)
        unfold cellW; split
        · exact Bs_cons (by decide) (Bs_cons hc Bs_nil)
        · exact Bs_cons hc Bs_nil
    · cases h
theorem enc_Bs {p n a b : Int} {l : List Int} (h : encodeM p n = some (a, b)) (hl : Bs l) : Bs (a :: b :: l) := by
  obtain ⟨_, h1, h2, h3, h4, _⟩ := dec_enc h
  exact Bs_cons ⟨h1, h2⟩ (Bs_cons ⟨h3, h4⟩ hl)
theorem itemW_Bs {x : Int × List Cell} {f : Bool} {n : Int} {l : List Int} (hw : Cws x.2) (h : itemW x f n = .ok l) : Bs l := by
  unfold itemW at h
  split at h
  · split at h
    · cases h
    · rename_i he
      split at h
      · cases h
      · rename_i hk; cases h; exact Bs_cons (by decide) (enc_Bs he (cellsW_Bs hw hk))
  · exact cellsW_Bs hw h
theorem itemsW_Bs {n : Int} : ∀ {xs : List (Int × List Cell)} {f : Bool} {l : List Int}, (∀ x ∈ xs, Cws x.2) → itemsW n f xs = .ok l → Bs l
  | [], f, l, _, h => by cases h; exact Bs_nil
  | x :: xs, f, l, hw, h => by
    unfold itemsW at h
    split at h
    · cases h
    · rename_i l1 h1
      split at h
      · cases h
      · rename_i k h2
        cases h
        exact Bs_app (itemW_Bs (hw x (List.mem_cons_self ..)) h1) (itemsW_Bs (fun y hy => hw y (List.mem_cons_of_mem _ hy)) h2)
theorem writeM_Bs {i : Inb} {n : Int} {l : List Int} (ha : 0 ≤ i.aid ∧ i.aid ≤ 255) (hw : ∀ x ∈ i.items, Cws x.2) (h : writeM i n = .ok l) : Bs l := by
  unfold writeM at h
  split at h
  · cases h; exact Bs_cons ha Bs_nil
  · split at h
    · cases h
    · rename_i he
      split at h
      · cases h
      · rename_i h2; cases h; exact Bs_cons ha (enc_Bs he (itemsW_Bs hw h2))
theorem its_Cws {l : List It} (h : Iw l) : ∀ x ∈ its l, Cws x.2 := fun x hx => by
  obtain ⟨y, hy, rfl⟩ := List.mem_map.1 hx
  exact h y hy
theorem its_mem {l : List It} {x : It} (h : x ∈ l) : (x.at', x.cs) ∈ its l := List.mem_map.2 ⟨x, h, rfl⟩
/-- What is written is put in order: what the law does with what it wrote. -/
theorem norm_al {i : Inb} (h : i.alone = true) : normM i = ⟨i.aid, true, 0, []⟩ := if_pos h
theorem norm_na {i : Inb} (h : i.alone = false) : normM i = ⟨i.aid, false, i.cur, normI i.items⟩ := if_neg (by rw [h]; decide)
theorem normI_0 : normI [] = [] := rfl
theorem normI_c (x : Int × List Cell) (xs : List (Int × List Cell)) : normI (x :: xs) = if x.1 = -1 ∧ x.2 = [] then xs else x :: xs := rfl
theorem cellF_err {l : List Int} {e : Int} (h : cellF l = .error e) : e ≠ 0 := by
  unfold cellF at h
  repeat' split at h
  all_goals first
    | (cases h; decide)
    | cases h
theorem cellsF_err0 : ∀ {l : List Int} {e : Int}, cellsF l = .error e → e ≠ 0
  | l, e, h => by
    unfold cellsF at h
    split at h
    · cases h
    · split at h
      · rename_i h1; cases h; exact cellF_err h1
      · rename_i x r1 h1
        have hl := cellF_len h1
        split at h
        · rename_i h2; cases h; exact cellsF_err0 h2
        · cases h
termination_by l => l.length
decreasing_by assumption
theorem placeF_err {l : List Int} {e : Int} (h : placeF l = .error e) : e ≠ 0 := by
  unfold placeF at h
  split at h
  · cases h
  · cases h; decide
theorem itemF_err0 {l : List Int} {e : Int} (h : itemF l = .error e) : e ≠ 0 := by
  unfold itemF at h
  split at h
  · split at h
    · rename_i h1; cases h; exact placeF_err h1
    · split at h
      · rename_i h2; cases h; exact cellsF_err0 h2
      · cases h
  · split at h
    · rename_i h2; cases h; exact cellsF_err0 h2
    · cases h
theorem itemsF_err0 : ∀ {l : List Int} {e : Int}, itemsF l = .error e → e ≠ 0
  | l, e, h => by
    unfold itemsF at h
    split at h
    · cases h
    · rename_i hne
      split at h
      · rename_i h1; cases h; exact itemF_err0 h1
      · rename_i x r h1
        have hl := itemF_len hne h1
        split at h
        · rename_i h2; cases h; exact itemsF_err0 h2
        · cases h
termination_by l => l.length
decreasing_by assumption
theorem inbF_err0 {l : List Int} {e : Int} (h : inbF l = .error e) : e ≠ 0 := by
  cases l with
  | nil => cases h; decide
  | cons a r =>
    change (if r = [] then (Except.ok (⟨a, true, 0, []⟩ : Inb) : Except Int Inb) else match placeF r with | .error e => .error e | .ok (c, r') => match itemsF r' with | .error e => .error e | .ok xs => .ok ⟨a, false, c, xs⟩) = Except.error e at h
    split at h
    · cases h
    · split at h
      · rename_i hp; cases h; exact placeF_err hp
      · split at h
        · rename_i hx; cases h; exact itemsF_err0 hx
        · cases h
theorem inb_ok0 {l : List Int} (h : errV (inbF l) = 0) : inbF l = .ok (inbV l) := by
  cases hr : inbF l with
  | ok q => unfold inbV; rw [hr]
  | error e => rw [hr] at h; exact absurd h (inbF_err0 hr)
theorem inb_er0 {l : List Int} (h : errV (inbF l) ≠ 0) : inbV l = zinb := by
  cases hr : inbF l with
  | ok q => rw [hr] at h; exact absurd rfl h
  | error e => unfold inbV; rw [hr]
theorem itemsW_err {n : Int} : ∀ {xs : List (Int × List Cell)} {f : Bool} {e : Int}, itemsW n f xs = .error e → e ≠ 0
  | [], f, e, h => by cases h
  | x :: xs, f, e, h => by
    unfold itemsW at h
    split at h
    · rename_i h1; cases h; exact itemW_err h1
    · split at h
      · rename_i h2; cases h; exact itemsW_err h2
      · cases h
theorem writeM_err {i : Inb} {n e : Int} (h : writeM i n = .error e) : e ≠ 0 := by
  unfold writeM at h
  split at h
  · cases h
  · split at h
    · cases h; decide
    · split at h
      · rename_i h2; cases h; exact itemsW_err h2
      · cases h
theorem write_ok0 {i : Inb} {n : Int} (h : errV (writeM i n) = 0) : writeM i n = .ok (okL (writeM i n)) := by
  cases hr : writeM i n with
  | ok l => rfl
  | error e => rw [hr] at h; exact absurd h (writeM_err hr)
theorem norm_z {l : List It} (h : ¬ (0 : Int) < (l.length : Nat)) : normI (its l) = its l := by
  cases l with
  | nil => rfl
  | cons x l => exact absurd (show (0 : Int) < ((x :: l).length : Nat) by simp only [List.length_cons]; omega) h
theorem norm_p {l : List It} {x : It} (hx : l[0]? = some x) (h : ¬ x.at' = -1) : normI (its l) = its l := by
  cases l with
  | nil => rfl
  | cons y l => cases hx; exact if_neg fun e => h e.1
theorem norm_c {l : List It} {x : It} (hx : l[0]? = some x) (h : ¬ ((x.cs.length : Nat) : Int) = 0) : normI (its l) = its l := by
  cases l with
  | nil => rfl
  | cons y l => cases hx; exact if_neg fun e => h (by have := congrArg List.length e.2; simp only [List.length_nil] at this; rw [this]; rfl)
theorem norm_t {l : List It} {x y : It} (hx : l[0]? = some x) (h : x.at' = -1) (hy : l[0]? = some y) (hc : ((y.cs.length : Nat) : Int) = 0) : normI (its l) = its (l.drop 1) := by
  cases l with
  | nil => rfl
  | cons z l => cases hx; cases hy; exact if_pos ⟨h, List.length_eq_zero_iff.1 (by dsimp only; omega)⟩
theorem its_wsum {l : List It} {m : Nat} (h : wsum (its l) ≤ m) : l.length ≤ m ∧ ∀ x ∈ l, x.cs.length ≤ m := by
  refine ⟨?_, fun x hx => ?_⟩
  · have := wsum_len (its l); rw [its_len] at this; omega
  · have := wsum_mem (its_mem hx); dsimp only at this; omega
theorem few_of {l : List It} (h : fewB l = true) : l.length ≤ 20 ∧ ∀ x ∈ l, x.cs.length ≤ 60 := by simpa [fewB] using h
theorem few_wsum {l : List It} (h : l.length ≤ 20 ∧ ∀ x ∈ l, x.cs.length ≤ 60) : wsum (its l) ≤ 2460 := by
  have h2 := wsum_le (xs := its l) (m := 60) fun y hy => by
    obtain ⟨x, hx, rfl⟩ := List.mem_map.1 hy
    exact h.2 x hx
  rw [its_len] at h2; omega
end Gs
namespace Go.Sh
open Go
variable {P : Program} {R : Ending → World → Prop} {K : Value → World → Prop} {w : World}
theorem sliceLoR {α : Type} {f : α → List Value} {t m n cap : Nat} (hf : Enc f m) {A : Option Addr} {l : List α} {k1 : IntKind} {lo : Int} (ht : slN P t = some m) (hr : Rd w A (rows f l)) (hl : n = l.length) (h0 : 0 ≤ lo) (h1 : lo ≤ n) (hc : n ≤ cap)
    (h : ∀ A', Rd w A' (rows f (l.drop lo.toNat)) → (∀ k, blkOf A' k → blkOf A k) → K (.slice A' (n - lo.toNat) (cap - lo.toNat)) w) :
    opv ((Instr.sliceAt t (.slice A n cap) (some (.int k1 lo)) none none).run P w) R K := by
  unfold slN at ht
  split at ht
  · rename_i e hu
    have hel : P.elem t = e := by simp [Program.elem, hu]
    have hu' : P.underlying t = some (.slice (P.elem t)) := by rw [hel]; exact hu
    have hr1 := run_slice_l (P := P) w t A n cap hu' k1 lo h0 h1
    rw [run_cellsN (P := P) (w := w) (by rw [hel]; exact ht)] at hr1
    have hr2 := run_sliceAt_slice (P := P) w t (.slice A n cap) (some (.int k1 lo)) none none hu'
    rw [hr1] at hr2
    refine opv_run (v := sliced A lo.toNat n cap m) (w' := w) hr2 (h _ ?_ ?_)
    · subst hl
      rw [← rows_drop hf]
      by_cases he : cap = lo.toNat
      · have : lo.toNat = l.length := by omega
        left
        exact List.drop_eq_nil_of_le (by rw [rows_len hf, this]; exact Nat.le_refl _)
      · rw [if_neg he]
        cases A with
        | none =>
          rcases hr with hx | ⟨a, ha, _⟩
          · left; rw [hx]; simp
          · cases ha
        | some a => exact hr.drop _
    · intro k hk
      split at hk
      · exact hk
      · obtain ⟨a, ha, rfl⟩ := hk
        cases A with
        | none => cases ha
        | some a0 => cases ha; exact ⟨a0, rfl, by rw [add_block]⟩
  · cases ht
end Go.Sh
