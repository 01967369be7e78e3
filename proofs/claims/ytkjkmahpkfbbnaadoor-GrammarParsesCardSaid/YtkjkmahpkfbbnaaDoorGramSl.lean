/-
  Ends of slices, as equations; what is written and shown of all items and of all but the last. No condition.
-/
import Derived.Test.YtkjkmahpkfbbnaaDoorGramLen
import Derived.Test.YtkjkmahpkfbbnaaDoorGramText
import Derived.Test.YtkjkmahpkfbbnaaDoorArgs
set_option linter.unusedVariables false
namespace Go.Sh
open Go
variable {P : Program} {w : World}
theorem sliceLoX {α : Type} {f : α → List Value} {t m n cap : Nat} (hf : Enc f m) {A : Option Addr} {l : List α} {lo : Int} (ht : slN P t = some m) (hr : Rd w A (rows f l)) (hl : n = l.length) (h0 : 0 ≤ lo) (h1 : lo ≤ n) (hc : n ≤ cap) :
    ∃ A' c', (∀ w', (Instr.sliceAt t (.slice A n cap) (some (.int .i64 lo)) none none).run P w' = .ok (.slice A' (n - lo.toNat) c') w') ∧ Rd w A' (rows f (l.drop lo.toNat)) ∧ (∀ k, blkOf A' k → blkOf A k) ∧ n - lo.toNat ≤ c' := by
  unfold slN at ht
  split at ht
  · rename_i e hu
    have hel : P.elem t = e := by simp [Program.elem, hu]
    have hu' : P.underlying t = some (.slice (P.elem t)) := by rw [hel]; exact hu
    refine ⟨if cap = lo.toNat then A else A.map (·.add (lo.toNat * m)), cap - lo.toNat, fun w' => ?_, ?_, ?_, by omega⟩
    · have hr1 := run_slice_l (P := P) w' t A n cap hu' .i64 lo h0 h1
      rw [run_cellsN (P := P) (w := w') (by rw [hel]; exact ht)] at hr1
      have hr2 := run_sliceAt_slice (P := P) w' t (.slice A n cap) (some (.int .i64 lo)) none none hu'
      rw [hr1] at hr2
      exact hr2
    · subst hl
      rw [← rows_drop hf]
      by_cases he : cap = lo.toNat
      · have : lo.toNat = l.length := by omega
        left
        exact List.drop_eq_nil_of_le (by rw [rows_len hf, this]; exact Nat.le_refl _)
      · rw [if_neg he]
        cases A with
        | none =>
          rcases hr with hx | ⟨a, ha, _⟩
          · left; rw [hx]; simp
          · cases ha
        | some a => exact hr.drop _
    · intro k hk
      split at hk
      · exact hk
      · obtain ⟨a, ha, rfl⟩ := hk
        cases A with
        | none => cases ha
        | some a0 => cases ha; exact ⟨a0, rfl, by rw [add_block]⟩
  · cases ht
theorem sliceLoV {t n cap : Nat} {A : Option Addr} {k : IntKind} {l : List Int} {lo : Int} (ht : slN P t = some 1) (hr : Rd w A (vals k l)) (hl : n = l.length) (h0 : 0 ≤ lo) (h1 : lo ≤ n) (hc : n ≤ cap) :
    ∃ A' c', (∀ w', (Instr.sliceAt t (.slice A n cap) (some (.int .i64 lo)) none none).run P w' = .ok (.slice A' (n - lo.toNat) c') w') ∧ Rd w A' (vals k (l.drop lo.toNat)) := by
  rw [← rows_iv] at hr
  obtain ⟨A', c', h2, h3, _⟩ := sliceLoX (encI k) ht hr hl h0 h1 hc
  rw [rows_iv] at h3
  exact ⟨A', c', h2, h3⟩
end Go.Sh
namespace Gs
open Go Go.Sh
theorem last_one {α : Type} {l : List α} (h : 1 ≤ l.length) : ∃ x, l.drop (l.length - 1) = [x] ∧ l = l.take (l.length - 1) ++ [x] := by
  obtain ⟨x, hx⟩ := List.length_eq_one_iff.1 (show (l.drop (l.length - 1)).length = 1 by rw [List.length_drop]; omega)
  exact ⟨x, hx, by conv => lhs; rw [← List.take_append_drop (l.length - 1) l, hx]⟩
theorem items_split {aid cur tot : Int} {l : List It} {k : List Int} (h2 : 2 ≤ l.length) (h : writeM ⟨aid, false, cur, its l⟩ tot = .ok k) :
    ∃ p q a b, writeM ⟨aid, false, cur, its (l.take (l.length - 1))⟩ tot = .ok (aid :: p :: q :: a) ∧ writeM ⟨aid, false, cur, its (l.drop (l.length - 1))⟩ tot = .ok (aid :: p :: q :: b) ∧ k = aid :: p :: q :: (a ++ b) := by
  obtain ⟨x, hx, hl⟩ := last_one (l := l) (by omega)
  have e : its l = its (l.take (l.length - 1)) ++ [(x.at', x.cs)] := (congrArg its hl).trans (by simp [its])
  rw [e] at h
  obtain ⟨p, q, a, b, h3, h4, h5⟩ := write_snoc (fun e => by
    have := congrArg List.length e
    rw [its_len, List.length_take] at this; simp only [List.length_nil] at this; omega) h
  exact ⟨p, q, a, b, h3, by rw [hx]; exact h4, h5⟩
theorem str3 (a p q : Int) (k m : List Int) : b2s (a :: p :: q :: (k ++ m)) = b2s (a :: p :: q :: k) ++ b2s m := by
  ext1; simp [b2s]
theorem txt_split {page aid cur : Int} {l : List It} (h1 : 1 ≤ l.length) : ∃ b, b ≠ [] ∧ txtL page ⟨aid, false, cur, its l⟩ = txtL page ⟨aid, false, cur, its (l.take (l.length - 1))⟩ ++ b := by
  obtain ⟨x, hx, hl⟩ := last_one (l := l) h1
  refine ⟨itL page (x.at', x.cs), fun e => ?_, ?_⟩
  · have := congrArg List.length e
    unfold itL itHd at this
    simp only [List.length_append, size_data, size_app, size_32, size_61, List.length_nil] at this; omega
  · have e : its l = its (l.take (l.length - 1)) ++ [(x.at', x.cs)] := (congrArg its hl).trans (by simp [its])
    rw [txt_na rfl, txt_na rfl, e]
    simp
theorem ba_take (a b : List UInt8) : (⟨(a ++ b).toArray⟩ : ByteArray).extract 0 (⟨a.toArray⟩ : ByteArray).size = ⟨a.toArray⟩ := by
  ext1
  simp [ByteArray.size]
theorem ba_lt {a b : List UInt8} (h : b ≠ []) : (((⟨(a ++ b).toArray⟩ : ByteArray).size : Nat) : Int) > (((⟨a.toArray⟩ : ByteArray).size : Nat) : Int) := by
  have := List.length_pos_iff.2 h
  simp [ByteArray.size]; omega
end Gs
namespace Gs
open Go Go.Sh
theorem take_1 {α : Type} {l : List α} {k : Nat} {x : α} (hx : l[k]? = some x) : l.take (k + 1) = l.take k ++ [x] := by rw [List.take_add_one, hx]; rfl
theorem its_step2 {l m : List It} {k : Nat} {x y x' y' : It} (h : its (l.take k) = its (m.take k)) (hx : l[k]? = some x) (hy : m[k]? = some y) (h1 : x.at' = y.at') (hx' : l[k]? = some x') (hy' : m[k]? = some y') (h2 : x'.cs = y'.cs) : its (l.take (k + 1)) = its (m.take (k + 1)) := by
  cases hx.symm.trans hx'
  cases hy.symm.trans hy'
  exact its_step h hx hy ⟨h1, h2⟩
theorem may_st {c : Cell} (h : c.st = true) : mayB c = false := by simp [mayB, h]
theorem may_l {c : Cell} (h : ¬ c.l = 0) : mayB c = false := by simp [mayB, h]
theorem may_c {c : Cell} (h : ¬ c.c = 0) : mayB c = false := by simp [mayB, h]
theorem may_b {c : Cell} (h : c.ge = true) (hb : c.b < 64) : mayB c = false := by simp [mayB, h]; omega
theorem may_p {c : Cell} (h : c.ge = false) (hb : plainB c.b = false) : mayB c = false := by simp [mayB, h, hb]
theorem may_y1 {c : Cell} (h1 : c.st = false) (h2 : c.l = 0) (h3 : c.c = 0) (h : c.ge = true) (hb : ¬ c.b < 64) : mayB c = true := by simp [mayB, h1, h2, h3, h]; omega
theorem may_y2 {c : Cell} (h1 : c.st = false) (h2 : c.l = 0) (h3 : c.c = 0) (h : c.ge = false) (hb : plainB c.b = true) : mayB c = true := by simp [mayB, h1, h2, h3, h, hb]
end Gs
namespace Gs
open Go Go.Sh
theorem Cl.take {w : World} {l : List It} (h : Cl w l) (n : Nat) : Cl w (l.take n) := fun x hx => h x (List.mem_of_mem_take hx)
theorem Cl.drop {w : World} {l : List It} (h : Cl w l) (n : Nat) : Cl w (l.drop n) := fun x hx => h x (List.mem_of_mem_drop hx)
theorem rd_takeR {α : Type} {f : α → List Value} {m : Nat} (hf : Enc f m) {w : World} {A : Option Addr} {l : List α} (h : Rd w A (rows f l)) (n : Nat) : Rd w A (rows f (l.take n)) := by
  have h2 := h.take (n * m); rwa [rows_take hf] at h2
end Gs
namespace Gs
open Go Go.Sh
theorem b2s_size (xs : List Int) : (b2s xs).size = xs.length := by simp [b2s, ByteArray.size]
end Gs
