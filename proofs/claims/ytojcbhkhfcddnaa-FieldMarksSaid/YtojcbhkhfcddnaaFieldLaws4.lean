/-
  Layer 15 in plain Lean: what the law of marks asks. No program, no condition.
-/
import Derived.Test.YtojcbhkhfcddnaaFieldLaws3
namespace Gs
open Go
theorem allM_odd {cs : List Cell} {k : Nat} {x : Fld} (hx : (allM cs)[k]? = some x) : ∃ s : Nat, (startsN cs)[k]? = some s ∧ x.s = s ∧ (x.a % 2 = 1 ↔ oddB cs s = true) := by
  obtain ⟨s, hs, rfl⟩ := allM_get hx
  refine ⟨s, hs, rfl, ?_⟩
  show (getC _ _).b % 64 % 2 = 1 ↔ _
  unfold oddB
  rw [decide_eq_true_eq]; omega
theorem markQ_unm {cs : List Cell} {k : Nat} {x : Fld} (hx : (allM cs)[k]? = some x) (ho : x.a % 2 = 1) : markQ false (unmC cs ((startsN cs).take k)) x.s = unmC cs ((startsN cs).take (k + 1)) := by
  obtain ⟨s, hs, he, hi⟩ := allM_odd hx
  have hst := start_in hs
  have hb : befM (unmC cs ((startsN cs).take k)) (s : Int) = s := bef_self (by rw [← unm_len]; exact hst.1) (by rw [unm_st]; exact hst.2)
  rw [unm_step hs, if_pos (hi.1 ho), he]
  unfold markQ
  rw [hb, if_neg (by omega)]
theorem unmA_F {cs : List Cell} {k : Nat} {x : Fld} (hx : (allM cs)[k]? = some x) (ho : ¬ x.a % 2 = 1) : unmC cs ((startsN cs).take (k + 1)) = unmC cs ((startsN cs).take k) := by
  obtain ⟨s, hs, he, hi⟩ := allM_odd hx
  rw [unm_step hs, if_neg (fun h => ho (hi.2 h))]
theorem unmA_T' {cs : List Cell} {k : Nat} {x : Fld} (hx : (allM cs)[k]? = some x) (ho : x.a % 2 = 1) : unmN cs (k + 1) = unmN cs k + 1 := by
  obtain ⟨s, hs, he, hi⟩ := allM_odd hx
  exact unmN_T hs (hi.1 ho)
theorem unmA_F' {cs : List Cell} {k : Nat} {x : Fld} (hx : (allM cs)[k]? = some x) (ho : ¬ x.a % 2 = 1) : unmN cs (k + 1) = unmN cs k := by
  obtain ⟨s, hs, he, hi⟩ := allM_odd hx
  exact unmN_F hs (fun h => ho (hi.2 h))
theorem modX_even (x : Cell) : (modX false x).b % 2 = 0 := by
  have : (modX false x).b = x.b - x.b % 2 := rfl
  omega
theorem unm_fold {cs : List Cell} {s : Nat} (hs : s < cs.length) : ∀ (l : List Nat) (c : List Cell), c.length = cs.length → ((getC c s).b % 2 = 0 ∨ ((getC c s).b = (getC cs s).b ∧ s ∈ l)) →
    (getC (l.foldl (fun c s => if oddB cs s = true then modC false c s else c) c) s).b % 2 = 0 := by
  intro l
  induction l with
  | nil => intro c _ h; rcases h with h | ⟨_, h⟩; exact h; cases h
  | cons a l ih =>
    intro c hc h
    rw [List.foldl_cons]
    have hev : ∀ t : Nat, (getC c s).b % 2 = 0 → (getC (modC false c t) s).b % 2 = 0 := by
      intro t he
      rw [mod_get]
      split
      · exact modX_even _
      · exact he
    refine ih _ (by split; rw [modC_len]; exact hc; exact hc) ?_
    rcases h with h | ⟨h, hm⟩
    · left; split; exact hev _ h; exact h
    · by_cases ha : a = s
      · left
        subst ha
        split
        · rw [mod_get, if_pos ⟨rfl, by omega, by omega⟩]; exact modX_even _
        · rename_i ho
          unfold oddB at ho
          rw [decide_eq_true_eq] at ho
          omega
      · right
        refine ⟨?_, by rcases List.mem_cons.1 hm with e | e; exact absurd e.symm ha; exact e⟩
        split
        · rw [mod_get, if_neg (by rintro ⟨h2, _⟩; omega)]; exact h
        · exact h
/-- Behind it none is left. -/
theorem unm2 {cs : List Cell} (m : Nat) : unmN (unmC cs (startsN cs)) m = 0 := by
  unfold unmN
  rw [List.countP_eq_zero]
  intro s hs
  have hm := starts_mem.1 (List.mem_of_mem_take hs)
  rw [← unm_len, unm_st] at hm
  have := unm_fold hm.1 (startsN cs) cs rfl (.inr ⟨rfl, starts_mem.2 hm⟩)
  unfold oddB
  rw [decide_eq_true_eq]
  show ¬ (getC (unmC cs (startsN cs)) s).b % 2 = 1
  unfold unmC
  omega
end Gs
