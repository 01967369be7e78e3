/-
  Layer 14 in plain Lean: what its laws say, second text. No program, no condition.
-/
import Derived.Test.YtjdoakbadehicaaGreatDoorPlaneLaws
import Derived.Test.YtjdoakbadehicaaGreatDoorPlaneArgs
namespace Gs
open Go
theorem getC_setC {ps : List Cell} {a k : Int} {x : Cell} (ha : 0 ≤ a ∧ a < ps.length) (hk : 0 ≤ k ∧ k < ps.length) : getC (setC ps a x) k = if a = k then x else getC ps k := by
  rw [setC_in x ha.1 ha.2, getC_set ha hk]
theorem getC_new {ps : List Cell} {a : Int} {x : Cell} (ha : 0 ≤ a ∧ a < ps.length) : getC (setC ps a x) a = x := by rw [getC_setC ha ha, if_pos rfl]
theorem getC_old {ps : List Cell} {a k : Int} {x : Cell} (ha : 0 ≤ a ∧ a < ps.length) (hk : 0 ≤ k ∧ k < ps.length) (h : k ≠ a) : getC (setC ps a x) k = getC ps k := by rw [getC_setC ha hk, if_neg (Ne.symm h)]
theorem setC_same {ps : List Cell} {a : Int} {x : Cell} (ha : 0 ≤ a ∧ a < ps.length) : setC ps a x = ps ↔ getC ps a = x := by
  constructor
  · intro h; rw [← h]; exact getC_new ha
  · intro h
    rw [setC_in x ha.1 ha.2]
    have := getC_at (cs := ps) (k := a.toNat) (by omega)
    rw [Int.toNat_of_nonneg ha.1, h] at this
    obtain ⟨h1, h2⟩ := List.getElem?_eq_some_iff.1 this
    rw [← h2]; exact List.set_getElem_self h1
theorem clone_eq {r c a cur : Int} {ps : List Cell} {x : Cell} (ha : 0 ≤ a ∧ a < ps.length) (h : getC ps a = x) : ¬ (decide ((r = r ∧ c = c) ∧ a = cur ∧ setC ps a x = ps) ≠ decide (cur = a)) := by
  have := (setC_same (x := x) ha).2 h
  simp [this, eq_comm]
theorem clone_ne {r c a cur : Int} {ps : List Cell} {x : Cell} (ha : 0 ≤ a ∧ a < ps.length) (h : ¬ getC ps a = x) : ¬ (decide ((r = r ∧ c = c) ∧ a = cur ∧ setC ps a x = ps) ≠ false) := by
  have : ¬ setC ps a x = ps := fun e => h ((setC_same ha).1 e)
  simp [this]
/-! ### What is found of a part of the text of all -/
def joinB (l : List ByteArray) : ByteArray := l.foldl (· ++ ·) ⟨#[]⟩
theorem joinB_snoc (l : List ByteArray) (x : ByteArray) : joinB (l ++ [x]) = joinB l ++ x := by simp [joinB, List.foldl_append]
theorem joinB_step {l : List ByteArray} {k : Nat} {x : ByteArray} (h : l[k]? = some x) : joinB (l.take k) ++ x = joinB (l.take (k + 1)) := by
  rw [List.take_add_one, h]; exact (joinB_snoc _ _).symm
theorem joinB_size {M : Nat} : ∀ {l : List ByteArray}, (∀ x ∈ l, x.size ≤ M) → (joinB l).size ≤ l.length * M := by
  intro l
  suffices h : ∀ (l : List ByteArray) (r : ByteArray), (∀ x ∈ l, x.size ≤ M) → (l.foldl (· ++ ·) r).size ≤ r.size + l.length * M by
    intro hl
    have h1 := h l ⟨#[]⟩ hl
    have e : (⟨#[]⟩ : ByteArray).size = 0 := rfl
    rw [e] at h1
    unfold joinB; omega
  intro l
  induction l with
  | nil => intro r _; simp
  | cons x l ih =>
    intro r h
    have h1 := ih (r ++ x) (fun y hy => h y (by simp [hy]))
    have h2 := h x (by simp)
    rw [ByteArray.size_append] at h1
    rw [List.foldl_cons, List.length_cons, Nat.add_mul]
    omega
theorem rows_size {page c : Int} {ps : List Cell} {n k : Nat} (h : ps.length ≤ 200) : (joinB ((rowsL page c ps n).take k)).size ≤ k * 800 ∧ ∀ x ∈ rowsL page c ps n, x.size ≤ 800 := by
  have h1 : ∀ x ∈ rowsL page c ps n, x.size ≤ 800 := by
    intro x hx
    simp only [rowsL, List.mem_map, List.mem_range] at hx
    obtain ⟨i, _, rfl⟩ := hx
    have := text_size page ps ((i : Int) * c) c
    omega
  refine ⟨?_, h1⟩
  have h2 := joinB_size (M := 800) (l := (rowsL page c ps n).take k) (fun x hx => h1 x (List.mem_of_mem_take hx))
  have h3 : ((rowsL page c ps n).take k).length ≤ k := by rw [List.length_take]; exact Nat.min_le_left _ _
  exact Nat.le_trans h2 (Nat.mul_le_mul h3 (Nat.le_refl _))
theorem runesBytes_append (l k : List Int) : runesBytes (l ++ k) = runesBytes l ++ runesBytes k := by
  have h : ∀ (k : List Int) (r : ByteArray), k.foldl (fun r n => r ++ Utf8.encode n) r = r ++ runesBytes k := by
    intro k
    induction k with
    | nil => intro r; simp [runesBytes]
    | cons x k ih =>
      intro r
      rw [List.foldl_cons, ih]
      unfold runesBytes
      rw [List.foldl_cons]
      have := ih (ByteArray.empty ++ Utf8.encode x)
      rw [this, ByteArray.append_assoc, ByteArray.append_assoc]
      simp only [ByteArray.empty_append]
      rfl
  unfold runesBytes
  rw [List.foldl_append, h]; rfl
theorem sgl_split (page : Int) (ps : List Cell) (a b : Nat) : sgl page ps 0 (a + b) = sgl page ps 0 a ++ sgl page ps a b := by
  simp only [sgl, List.range_add, List.map_append, List.map_map]
  congr 1
  apply List.map_congr_left
  intro i _
  simp only [Function.comp]
  congr 1
  unfold cellAt
  congr 3
  omega
theorem rows_join {page c : Int} {ps : List Cell} (hc : 1 ≤ c) : ∀ k : Nat, (k : Int) * c ≤ ps.length → joinB (rowsL page c ps k) = runesBytes (sgl page ps 0 (k * c.toNat))
  | 0, _ => by simp [rowsL, joinB, sgl, runesBytes]; rfl
  | k + 1, h => by
    have e : ((k + 1 : Nat) : Int) * c = (k : Int) * c + c := by rw [Int.natCast_add, Int.add_mul]; simp
    rw [e] at h
    have h0 : 0 ≤ (k : Int) * c := Int.mul_nonneg (by omega) (by omega)
    rw [rowsL_step, joinB_snoc, rows_join hc k (by omega), text_in (by omega), ← runesBytes_append]
    have e2 : (min (max c 0) (ps.length : Int)).toNat = c.toNat := by omega
    have e3 : ((k * c.toNat : Nat) : Int) = (k : Int) * c := by rw [Int.natCast_mul, Int.toNat_of_nonneg (by omega)]
    rw [e2, ← e3, ← sgl_split, Nat.add_mul, Nat.one_mul]
theorem rows_all {page r c : Int} {N : Nat} {ps : List Cell} (hN : N = ps.length) (hr : 1 ≤ r) (hc : 1 ≤ c) (h : r * c = N) (hz : N ≠ 0) : joinB (rowsL page c ps r.toNat) = textOf page ps 0 N := by
  have e : ((r.toNat : Nat) : Int) = r := Int.toNat_of_nonneg (by omega)
  rw [rows_join hc _ (by rw [e]; omega), text_in (by omega)]
  congr 2
  have : ((r.toNat * c.toNat : Nat) : Int) = N := by rw [Int.natCast_mul, e, Int.toNat_of_nonneg (by omega), h]
  omega
theorem text_all {page : Int} {N : Nat} {ps : List Cell} (hN : N = ps.length) (hz : N ≠ 0) : textOf page ps 0 N = runesBytes (sgl page ps 0 N) := by
  rw [text_in (by omega)]; congr 2; omega
theorem enc120 : Utf8.encode 120 = ⟨#[120]⟩ := by decide +kernel
theorem text_x {page : Int} {N : Nat} {ps : List Cell} (hN : N = ps.length) (hz : N ≠ 0) : textOf page ps 0 N ++ ⟨#[120]⟩ = runesBytes (sgl page ps 0 N ++ [120]) := by
  rw [text_all hN hz, runes_snoc, enc120]
theorem x_sgn {page : Int} {N : Nat} {ps : List Cell} (h : Cws ps) : ∀ x ∈ sgl page ps 0 N ++ [120], Sgn x := by
  intro x hx
  rcases List.mem_append.1 hx with hx | hx
  · exact sgl_sgn h 0 N x hx
  · simp at hx; subst hx; exact .inl ⟨by decide, by decide⟩
theorem x_none {page : Int} {N : Nat} {ps : List Cell} (hN : N = ps.length) : findL page ps (sgl page ps 0 N ++ [120]) = -1 := by
  apply find_long
  · simp
  · rw [List.length_append, sgl_len]; simp; omega
theorem find_part {page : Int} {ps : List Cell} {f m : Nat} (hf : f < ps.length) (hm : m ≤ ps.length) :
    ∃ a : Nat, findL page ps (sgl page ps f m) = a ∧ a ≤ f ∧ sgl page ps a m = sgl page ps f m ∧ (0 < m → ∀ i : Nat, i < a → sgl page ps i m ≠ sgl page ps f m) := by
  by_cases h0 : m = 0
  · subst h0
    exact ⟨0, by rw [find_0 (by rw [sgl_len])]; rfl, Nat.zero_le _, by simp [sgl], fun h => absurd h (by omega)⟩
  · have hl : (sgl page ps f m).length = m := sgl_len _ _ _ _
    cases hfd : (List.range ps.length).find? (fun i : Nat => decide (sgl page ps i (sgl page ps f m).length = sgl page ps f m)) with
    | none =>
      have := List.find?_eq_none.1 hfd f (List.mem_range.2 hf)
      rw [hl] at this; simp at this
    | some a =>
      have h1 := List.find?_some hfd
      rw [hl] at h1
      have h1' : sgl page ps a m = sgl page ps f m := by simpa using h1
      have h2 : ∀ i : Nat, i < a → sgl page ps i m ≠ sgl page ps f m := by
        intro i hi he
        obtain ⟨_, as, bs, hab, hn⟩ := List.find?_eq_some_iff_append.1 hfd
        have hla : as.length = a := by
          have h3 := congrArg (fun l : List Nat => l[as.length]?) hab
          simp only [List.getElem?_append_right (Nat.le_refl _), Nat.sub_self, List.getElem?_cons_zero] at h3
          have h4 := (List.getElem?_eq_some_iff.1 h3).2
          simpa using h4
        have hia : i ∈ as := by
          have h3 := congrArg (fun l : List Nat => l[i]?) hab
          simp only [List.getElem?_append_left (show i < as.length by omega)] at h3
          have h5 : i < ps.length := by
            have := congrArg List.length hab
            simp at this; omega
          rw [List.getElem?_range h5] at h3
          exact List.mem_of_getElem? h3.symm
        have := hn i hia
        rw [hl] at this
        simp [he] at this
      refine ⟨a, ?_, ?_, h1', fun _ => h2⟩
      · unfold findL
        rw [if_neg (fun e => h0 (by rw [← hl, e]; rfl)), if_neg (by rw [hl]; omega), hfd]
      · by_cases h3 : a ≤ f
        · exact h3
        · exact absurd rfl (h2 f (by omega))
theorem plays_bd {r c : Int} {N : Nat} (hN : cellsN r c = N) (hz : N ≠ 0) (h : ¬ IntKind.i64.wrap (r * c) > 200) : N ≤ 200 := by
  have hp := cells_pos (r := r) (c := c) (by omega)
  have hb := cells_bd r c
  rw [Go.Sh.wrap_i64 (by omega) (by omega)] at h
  omega
end Gs
namespace Go.Sh
open Go
variable {P : Program} {w : World} {R : Ending → World → Prop} {K : Value → World → Prop}
theorem idx_strs {t T len cap : Nat} {k : IntKind} {i : Int} {A : Option Addr} {l : List ByteArray} (hn : slN P t = some 1) (hT : isOne P T = true) (hr : Rd w A (Gs.strs l)) (hl : len = l.length) (h0 : 0 ≤ i) (h1 : i < len)
    (h : ∀ x, l[i.toNat]? = some x → K (.string x) w) : opv ((Instr.indexAt t (.slice A len cap) (.int k i)).run P w) R fun a w => opv ((Instr.loadAt T a).run P w) R K := by
  have hi : i.toNat < l.length := by omega
  have hx : l[i.toNat]? = some l[i.toNat] := List.getElem?_eq_getElem hi
  exact idx_load1 hn hT hr (by rw [Gs.strs_len]; exact hl) h0 h1 (by rw [Gs.strs, List.getElem?_map, hx]; rfl) (h _ hx)
end Go.Sh
