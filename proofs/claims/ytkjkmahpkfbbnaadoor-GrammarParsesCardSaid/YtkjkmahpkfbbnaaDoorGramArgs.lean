/-
  What a row of a statement tells of an argument that is an Inbound (a struct that holds a slice of structs that hold slices). No condition.
-/
import Derived.Test.YtkjkmahpkfbbnaaDoorGramMem2
import Derived.Test.YtkjkmahpkfbbnaaDoorArgs
import Derived.Test.YtkjkmahpkfbbnaaDoorPlaneArgs
import Derived.Test.YtkjkmahpkfbbnaaDoorProg
import Derived.KernelRfl
namespace Go.Sh
open Go Go.ChangeShapes Go.WideShapes Go.RowKit
section
variable {H : Type} {enc : TypeId × Value → H} {P : Program} {w : World} {base : Nat} {spare : Nat → Bool} {held : Bool}
/-- A slice of elements that are known: it can be read as the row of what they are. -/
theorem row_gen {α : Type} {f : α → List Value} {m : Nat} {Q : α → Prop} (hf : Enc f m) {t e : TypeId} (ht : P.underlying t = some (.slice e)) (hc : P.cellsOf e = m) {fuel : Nat} {cs : List Value} {x : DataW H × List MemPlace}
    (hd : ∀ fuel cs x, DataW.trod enc P w base spare held fuel e cs = some x → ∃ a, cs = f a ∧ Q a) (hf1 : DataW.trod enc P w base spare held fuel t cs = some x) :
    ∃ (A : Option Addr) (len cap : Nat) (l : List α), cs = [.slice A len cap] ∧ Rd w A (rows f l) ∧ (∀ a ∈ l, Q a) ∧ len = l.length ∧ len ≤ cap ∧ cap ≤ maxLen := by
  rcases Go.Deep.open_slice ht hf1 with ⟨hcs, _⟩ | ⟨a, len, cap, m', n', D, Pl, hcs, _, hl, hm, hmm, _, hx⟩
  · exact ⟨none, 0, 0, [], hcs, .inl rfl, (fun a ha => by cases ha), rfl, Nat.le_refl _, Nat.zero_le _⟩
  · have hlm : len ≤ m' := by rw [hmm]; split <;> omega
    have key : ∀ k, k ≤ len → ∃ l : List α, l.length = k ∧ (∀ a ∈ l, Q a) ∧ ∀ i x, l[i]? = some x → w.cells? base (a.add (i * m)) m = some (f x) := by
      intro k
      induction k with
      | zero => intro _; exact ⟨[], rfl, (fun a ha => by cases ha), fun i x h => by simp at h⟩
      | succ k ih =>
        intro hk
        obtain ⟨l, h1, h2, h3⟩ := ih (by omega)
        obtain ⟨cs', h4, h5⟩ := hx k (by omega)
        obtain ⟨y, rfl, hq⟩ := hd _ _ _ h5
        refine ⟨l ++ [y], by simp [h1], fun b hb => ?_, fun i x hi => ?_⟩
        · rcases List.mem_append.1 hb with hb | hb
          · exact h2 b hb
          · simp at hb; subst hb; exact hq
        · by_cases hik : i < l.length
          · rw [List.getElem?_append_left hik] at hi; exact h3 i x hi
          · rw [List.getElem?_append_right (by omega)] at hi
            have hi0 : i - l.length = 0 := by
              have := (List.getElem?_eq_some_iff.1 hi).1
              simp at this; omega
            rw [hi0] at hi
            simp at hi
            subst hi
            have : i = k := by omega
            subst this
            rw [hc] at h4; exact h4
    obtain ⟨l, h1, h2, h3⟩ := key len (Nat.le_refl _)
    refine ⟨some a, len, cap, l, hcs, .inr ⟨a, rfl, fun j hj => ?_⟩, h2, h1.symm, hl, hm⟩
    rw [rows_len hf] at hj
    have hm0 := hf.pos
    have hq : j / m < l.length := Nat.div_lt_of_lt_mul (by rw [Nat.mul_comm]; exact hj)
    have hr : j % m < m := Nat.mod_lt _ hm0
    have hj' : j = j / m * m + j % m := by have := Nat.div_add_mod j m; rw [Nat.mul_comm] at this; omega
    have hxl : l[j / m]? = some l[j / m] := List.getElem?_eq_getElem hq
    obtain ⟨_, _, h6⟩ := World.cells?_some (h3 _ _ hxl)
    have h7 := h6 (j % m) hr
    rw [add_add, ← hj'] at h7
    rw [h7, ← rows_at hf hxl, List.getElem?_take, if_pos hr, List.getElem?_drop, ← hj']
/-- A struct's fields. -/
theorem fields_of {fs : Array Field} {t : TypeId} {fuel : Nat} {cs : List Value} {x : DataW H × List MemPlace} (ht : P.underlying t = some (.struct fs)) (h : DataW.trod enc P w base spare held fuel t cs = some x) :
    cs.length = P.cellsOf t ∧ ∃ n, ∀ (i : Nat) (f : Field), fs[i]? = some f → ∃ y, DataW.trod enc P w base spare held n f.type ((cs.drop f.offset).take (P.cellsOf f.type)) = some y := by
  obtain ⟨xs, n, _, _, hl, hx, hf⟩ := DataW.trod_struct ht h
  refine ⟨hl, n, fun i f hi => ?_⟩
  have hlt : i < xs.length := by rw [hx]; exact (Array.getElem?_eq_some_iff.1 hi).1
  exact ⟨xs[i], by rw [hf i f hi]; exact List.getElem?_eq_getElem hlt⟩
theorem leaf_int {t : TypeId} {k : IntKind} {fuel : Nat} {cs : List Value} {x : DataW H × List MemPlace} (ht : P.underlying t = some (.int k)) (h : DataW.trod enc P w base spare held fuel t cs = some x) : ∃ n, cs = [.int k n] ∧ (Lit.int k n).wf = true := by
  obtain ⟨v, vs, rfl, ⟨n, rfl, hn⟩, h2⟩ := trod_leaf ht rfl h
  cases h2
  exact ⟨n, rfl, hn⟩
theorem leaf_bool {t : TypeId} {fuel : Nat} {cs : List Value} {x : DataW H × List MemPlace} (ht : P.underlying t = some .bool) (h : DataW.trod enc P w base spare held fuel t cs = some x) : ∃ b, cs = [.bool b] := by
  obtain ⟨v, vs, rfl, ⟨b, rfl⟩, h2⟩ := trod_leaf ht rfl h
  cases h2
  exact ⟨b, rfl⟩
end
end Go.Sh
namespace Go.Proofs.YtkjkmahpkfbbnaaDoor
set_option maxRecDepth 100000
set_option linter.constructorNameAsVariable false
open Go Go.Sh Go.ChangeShapes Go.WideShapes Go.RowKit
section
variable {H : Type} {enc : TypeId × Value → H} {w : World} {base : Nat} {spare : Nat → Bool} {held : Bool}
def Rng (p : Int) : Prop := -9223372036854775808 ≤ p ∧ p ≤ 9223372036854775807
theorem rng_wf {n : Int} (h : (Lit.int .i64 n).wf = true) : Rng n := by
  have h1 : (decide (-9223372036854775808 ≤ n) && decide (n ≤ 9223372036854775807)) = true := h
  simpa [Rng] using h1
theorem u8_wf {n : Int} (h : (Lit.int .u8 n).wf = true) : 0 ≤ n ∧ n ≤ 255 := by
  have h1 : (decide (0 ≤ n) && decide (n ≤ 255)) = true := h
  simpa using h1
theorem item_open {fuel : Nat} {cs : List Value} {x : DataW H × List MemPlace} (h : DataW.trod enc Tryd.prog w base spare held fuel 55 cs = some x) : ∃ it : Gs.It, cs = Gs.ie it ∧ Rng it.at' ∧ Rd w it.A (rows Gs.cv it.cs) ∧ Gs.Cws it.cs := by
  obtain ⟨hl, n, hf⟩ := fields_of Tryd.underlying55 h
  rw [show Tryd.prog.cellsOf 55 = 2 by kernel_rfl] at hl
  obtain ⟨y0, h0⟩ := hf 0 _ rfl
  obtain ⟨y1, h1⟩ := hf 1 _ rfl
  replace h0 : DataW.trod enc Tryd.prog w base spare held n 3 ((cs.drop 0).take (Tryd.prog.cellsOf 3)) = some y0 := h0
  rw [show Tryd.prog.cellsOf 3 = 1 by kernel_rfl] at h0
  replace h1 : DataW.trod enc Tryd.prog w base spare held n 35 ((cs.drop 1).take (Tryd.prog.cellsOf 35)) = some y1 := h1
  rw [show Tryd.prog.cellsOf 35 = 1 by kernel_rfl] at h1
  match cs, hl with
  | [a, b], _ =>
    obtain ⟨p, ha, hp⟩ := leaf_int Tryd.underlying3 h0
    obtain ⟨A, len, cap, l, hb, rd, hq, hn, hc, _⟩ := row_gen Gs.encC Tryd.underlying35 (by kernel_rfl) (Q := fun c : Gs.Cell => Gs.Cw c) (fun fuel cs x hx => Gs.cell_leaf _ (flat_sound 3 fuel 59 _ cs x (by kernel_rfl) hx)) h1
    simp only [List.drop_zero, List.take_succ_cons, List.take_zero, List.cons.injEq, and_true] at ha
    simp only [List.drop_succ_cons, List.drop_zero, List.take_succ_cons, List.take_zero, List.cons.injEq, and_true] at hb
    subst ha hb hn
    exact ⟨⟨p, A, cap, l⟩, rfl, rng_wf hp, rd, hq⟩
/-- An Inbound that came in. -/
theorem inb_open {r : Reach} {b0 : Nat} {v : Value} {d : DataW H} {ps : List MemPlace} (hval : Value.okWide Tryd.prog w r b0 26 v) (h : DataW.Trod enc Tryd.prog w base spare held 26 v d ps) :
    ∃ (aid cur : Int) (al : Bool) (A : Option Addr) (n cp : Nat) (l : List Gs.It), v = .agg #[.int .u8 aid, .bool al, .int .i64 cur, .slice A n cp] ∧ Rd w A (rows Gs.ie l) ∧ n = l.length ∧ Gs.Cl w l ∧ (0 ≤ aid ∧ aid ≤ 255) ∧ n ≤ cp ∧ (-9223372036854775808 ≤ cur ∧ cur ≤ 9223372036854775807) ∧ Gs.Iw l ∧ (∀ x ∈ l, -9223372036854775808 ≤ x.at' ∧ x.at' ≤ 9223372036854775807) ∧ n ≤ 9223372036854775807 := by
  obtain ⟨cs, rfl, _⟩ := okWide_struct Tryd.underlying26 hval
  obtain ⟨fuel, h⟩ := h
  obtain ⟨hl, n, hf⟩ := fields_of Tryd.underlying26 h
  rw [show Tryd.prog.cellsOf 26 = 4 by kernel_rfl] at hl
  obtain ⟨y0, h0⟩ := hf 0 _ rfl
  obtain ⟨y1, h1⟩ := hf 1 _ rfl
  obtain ⟨y2, h2⟩ := hf 2 _ rfl
  obtain ⟨y3, h3⟩ := hf 3 _ rfl
  replace h0 : DataW.trod enc Tryd.prog w base spare held n 5 ((cs.toList.drop 0).take (Tryd.prog.cellsOf 5)) = some y0 := h0
  rw [show Tryd.prog.cellsOf 5 = 1 by kernel_rfl] at h0
  replace h1 : DataW.trod enc Tryd.prog w base spare held n 4 ((cs.toList.drop 1).take (Tryd.prog.cellsOf 4)) = some y1 := h1
  rw [show Tryd.prog.cellsOf 4 = 1 by kernel_rfl] at h1
  replace h2 : DataW.trod enc Tryd.prog w base spare held n 3 ((cs.toList.drop 2).take (Tryd.prog.cellsOf 3)) = some y2 := h2
  rw [show Tryd.prog.cellsOf 3 = 1 by kernel_rfl] at h2
  replace h3 : DataW.trod enc Tryd.prog w base spare held n 24 ((cs.toList.drop 3).take (Tryd.prog.cellsOf 24)) = some y3 := h3
  rw [show Tryd.prog.cellsOf 24 = 1 by kernel_rfl] at h3
  obtain ⟨ls, rfl⟩ : ∃ ls : List Value, cs = ls.toArray := ⟨cs.toList, by simp⟩
  replace hl : ls.length = 4 := by simpa [Value.cells] using hl
  match ls, hl with
  | [a, b, c, e], _ =>
    obtain ⟨aid, ha, hpa⟩ := leaf_int Tryd.underlying5 h0
    obtain ⟨al, hb⟩ := leaf_bool Tryd.underlying4 h1
    obtain ⟨cur, hc, hpc⟩ := leaf_int Tryd.underlying3 h2
    obtain ⟨A, len, cap, l, he, rd, hq, hn, hcp, hmx⟩ := row_gen Gs.encIt Tryd.underlying24 (by kernel_rfl) (Q := fun it : Gs.It => Rng it.at' ∧ Rd w it.A (rows Gs.cv it.cs) ∧ Gs.Cws it.cs) (fun fuel cs x hx => item_open hx) h3
    simp only [List.drop_zero, List.drop_succ_cons, List.take_succ_cons, List.take_zero, List.cons.injEq, and_true] at ha hb hc he
    subst ha hb hc he
    exact ⟨aid, cur, al, A, len, cap, l, rfl, rd, hn, fun x hx => (hq x hx).2.1, u8_wf hpa, hcp, rng_wf hpc, fun x hx => (hq x hx).2.2, fun x hx => (hq x hx).1, Nat.le_trans hcp hmx⟩
/-- Bytes that came in. -/
theorem bytes_open {r : Reach} {b0 : Nat} {v : Value} {d : DataW H} {ps : List MemPlace} (hval : Value.okWide Tryd.prog w r b0 22 v) (h : DataW.Trod enc Tryd.prog w base spare held 22 v d ps) :
    ∃ (A : Option Addr) (n cp : Nat) (bs : List Int), v = .slice A n cp ∧ Rd w A (vals .u8 bs) ∧ n = bs.length ∧ n ≤ cp ∧ Bs bs := by
  obtain ⟨A, len, cap, rfl⟩ := okWide_slice Tryd.underlying22 hval
  obtain ⟨fuel, h⟩ := h
  obtain ⟨A2, len2, cap2, l, he, rd, hq, hn, hcp, _⟩ := row_gen (encI .u8) Tryd.underlying22 (by kernel_rfl) (Q := fun a : Int => (Lit.int .u8 a).wf = true) (fun fuel cs x hx => int_leaf .u8 _ (flat_sound 3 fuel 5 _ cs x (by kernel_rfl) hx)) h
  simp only [Value.cells, List.cons.injEq, Value.slice.injEq, and_true] at he
  obtain ⟨rfl, rfl, rfl⟩ := he
  rw [rows_iv] at rd
  exact ⟨A, len, cap, l, rfl, rd, hn, hcp, fun x hx => u8_wf (hq x hx)⟩
end
end Go.Proofs.YtkjkmahpkfbbnaaDoor
