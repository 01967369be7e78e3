/-
  Layer 15 in plain Lean: attributes, fields, where they lie. No program, no condition.
-/
import Derived.Test.YtjdoakbadehicaaGreatDoorPlaneLaws
namespace Gs
open Go
structure Fld where
  s : Int
  l : Int
  a : Int
deriving DecidableEq
def fv (f : Fld) : List Value := [.int .i64 f.s, .int .i64 f.l, .int .u8 f.a]
theorem encF : Sh.Enc fv 3 := ⟨fun _ => rfl, fun a u hu => by
  simp only [fv, List.mem_cons, List.mem_nil_iff, or_false] at hu
  rcases hu with rfl | rfl | rfl <;> rfl, by decide⟩
def zf : Fld := ⟨0, 0, 0⟩
abbrev stB (cs : List Cell) (i : Int) : Bool := (getC cs i).st
/-- The first place from one on, step by step, at which an attribute lies. -/
def lookD (cs : List Cell) (at' step : Int) : Option Nat := (List.range cs.length).find? fun i : Nat => stB cs ((at' + i * step) % cs.length)
def lookM (cs : List Cell) (at' step : Int) : Int := if 0 ≤ at' ∧ at' < cs.length then match lookD cs at' step with | some i => (at' + i * step) % cs.length | none => -1 else -1
def befM (cs : List Cell) (at' : Int) : Int := lookM cs at' (-1)
def aftM (cs : List Cell) (at' : Int) : Int := if 0 ≤ at' ∧ at' < cs.length then lookM cs ((at' + 1) % cs.length) 1 else -1
def lenM (cs : List Cell) (s : Int) : Int := if aftM cs s - s - 1 < 0 then aftM cs s - s - 1 + cs.length else aftM cs s - s - 1
def atM (cs : List Cell) (s : Int) : Fld := ⟨s, lenM cs s, (getC cs s).b % 64⟩
def startsN (cs : List Cell) : List Nat := (List.range cs.length).filter fun i => stB cs i
def startsL (cs : List Cell) : List Int := (startsN cs).map Int.ofNat
def allM (cs : List Cell) : List Fld := (startsL cs).map (atM cs)
def ofM (cs : List Cell) (at' : Int) : Fld := if befM cs at' < 0 then zf else atM cs (befM cs at')
def ofB (cs : List Cell) (at' : Int) : Bool := decide (¬ befM cs at' < 0)
def placesL (N : Nat) (f : Fld) : List Int := if 0 ≤ f.s ∧ f.s < N then (List.range (min (max f.l 0) N).toNat).map fun k : Nat => (f.s + (k + 1 : Nat)) % N else []
def dataM (cs : List Cell) (f : Fld) : List Int := (placesL cs.length f).map fun i => (getC cs i).b
def protB (a : Int) : Bool := decide (a / 32 % 2 = 1)
def openM (cs : List Cell) (at' : Int) : Bool := if befM cs at' < 0 then decide (0 ≤ at' ∧ at' < cs.length) else decide (befM cs at' ≠ at') && !protB (atM cs (befM cs at')).a
def homeF (f : Fld) : Bool := decide (0 < f.l) && !protB f.a
def homeM (cs : List Cell) : Int := match (allM cs).find? homeF with | some f => (f.s + 1) % cs.length | none => 0
def shownN (a : Int) : Int := a / 4 % 4
def textM (page : Int) (cs : List Cell) (f : Fld) : List Int := if shownN f.a = 3 then List.replicate (placesL cs.length f).length 32 else (placesL cs.length f).map fun i => sign1 page (getC cs i)
/-! ### Finding in a range -/
theorem find_range {N i : Nat} {p : Nat → Bool} (hi : i < N) (hp : p i = true) (hn : ∀ j, j < i → p j = false) : (List.range N).find? p = some i := by
  rw [List.find?_range_eq_some]
  exact ⟨hp, by simpa using hi, fun j hj => by simp [hn j hj]⟩
theorem find_range_some {N i : Nat} {p : Nat → Bool} (h : (List.range N).find? p = some i) : i < N ∧ p i = true ∧ ∀ j, j < i → p j = false := by
  rw [List.find?_range_eq_some] at h
  exact ⟨by simpa using h.2.1, h.1, fun j hj => by have := h.2.2 j hj; simpa using this⟩
theorem find_range_none {N : Nat} {p : Nat → Bool} (h : (List.range N).find? p = none) {j : Nat} (hj : j < N) : p j = false := by
  have := List.find?_eq_none.1 h j (List.mem_range.2 hj)
  simpa using this
/-- None up to here. -/
def noneB (cs : List Cell) (at' step : Int) (k : Nat) : Prop := ∀ j, j < k → stB cs ((at' + j * step) % cs.length) = false
theorem noneB_0 (cs : List Cell) (at' step : Int) : noneB cs at' step 0 := fun j hj => by omega
theorem noneB_step {cs : List Cell} {at' step : Int} {k : Nat} (h : noneB cs at' step k) (hn : stB cs ((at' + k * step) % cs.length) = false) : noneB cs at' step (k + 1) := fun j hj => by
  by_cases hq : j = k
  · subst hq; exact hn
  · exact h j (by omega)
theorem look_at {cs : List Cell} {at' step : Int} {k : Nat} (h0 : 0 ≤ at' ∧ at' < cs.length) (h : noneB cs at' step k) (hk : k < cs.length) (hs : stB cs ((at' + k * step) % cs.length) = true) : lookM cs at' step = (at' + k * step) % cs.length := by
  unfold lookM lookD
  rw [if_pos h0, find_range hk hs h]
theorem look_none {cs : List Cell} {at' step : Int} (h : noneB cs at' step cs.length) : lookM cs at' step = -1 := by
  unfold lookM lookD
  have : (List.range cs.length).find? (fun i : Nat => stB cs ((at' + i * step) % cs.length)) = none := by
    rw [List.find?_eq_none]
    intro j hj
    rw [h j (List.mem_range.1 hj)]; simp
  rw [this]; split <;> rfl
theorem look_out {cs : List Cell} {at' step : Int} (h : ¬ (0 ≤ at' ∧ at' < cs.length)) : lookM cs at' step = -1 := by unfold lookM; rw [if_neg h]
theorem aft_out {cs : List Cell} {at' : Int} (h : ¬ (0 ≤ at' ∧ at' < cs.length)) : aftM cs at' = -1 := by unfold aftM; rw [if_neg h]
theorem mod_bd (x : Int) {N : Nat} (h : 0 < N) : 0 ≤ x % (N : Int) ∧ x % (N : Int) < N := ⟨Int.emod_nonneg _ (by omega), Int.emod_lt_of_pos _ (by omega)⟩
/-- What a look finds, and what lies ahead of it. -/
theorem look_some {cs : List Cell} {at' step : Int} (h0 : 0 ≤ at' ∧ at' < cs.length) (h : ¬ lookM cs at' step < 0) : ∃ k : Nat, k < cs.length ∧ lookM cs at' step = (at' + k * step) % cs.length ∧ stB cs (lookM cs at' step) = true ∧ noneB cs at' step k := by
  unfold lookM at *
  rw [if_pos h0] at *
  cases hf : lookD cs at' step with
  | none => rw [hf] at h; simp at h
  | some k =>
    obtain ⟨h1, h2, h3⟩ := find_range_some hf
    exact ⟨k, h1, rfl, h2, h3⟩
theorem look_neg {cs : List Cell} {at' step : Int} (h : lookM cs at' step < 0) : lookM cs at' step = -1 := by
  unfold lookM at *
  split at h
  · rename_i h0
    rw [if_pos h0]
    cases hf : lookD cs at' step with
    | none => rfl
    | some k =>
      rw [hf] at h
      have := (mod_bd (at' + k * step) (N := cs.length) (by omega)).1
      simp only at h; omega
  · rename_i h0; rw [if_neg h0]
/-- No attribute at all. -/
theorem look_none_all {cs : List Cell} {at' : Int} (h0 : 0 ≤ at' ∧ at' < cs.length) (h : lookM cs at' 1 < 0) : ∀ i : Int, 0 ≤ i ∧ i < cs.length → stB cs i = false := by
  have hn : noneB cs at' 1 cs.length := by
    unfold lookM at h
    rw [if_pos h0] at h
    cases hf : lookD cs at' 1 with
    | none => intro j hj; exact find_range_none hf hj
    | some k => rw [hf] at h; have := (mod_bd (at' + k * 1) (N := cs.length) (by omega)).1; simp only at h; omega
  intro i hi
  have := hn (((i - at') % cs.length).toNat) (by have := mod_bd (i - at') (N := cs.length) (by omega); omega)
  rwa [Int.toNat_of_nonneg (mod_bd (i - at') (N := cs.length) (by omega)).1, Int.mul_one, Int.add_comm at', Int.emod_add_emod, show i - at' + at' = i by omega, Int.emod_eq_of_lt hi.1 hi.2] at this
theorem look_none_allB {cs : List Cell} {at' : Int} (h0 : 0 ≤ at' ∧ at' < cs.length) (h : lookM cs at' (-1) < 0) : ∀ i : Int, 0 ≤ i ∧ i < cs.length → stB cs i = false := by
  have hn : noneB cs at' (-1) cs.length := by
    unfold lookM at h
    rw [if_pos h0] at h
    cases hf : lookD cs at' (-1) with
    | none => intro j hj; exact find_range_none hf hj
    | some k => rw [hf] at h; have := (mod_bd (at' + k * (-1)) (N := cs.length) (by omega)).1; simp only at h; omega
  intro i hi
  have := hn (((at' - i) % cs.length).toNat) (by have := mod_bd (at' - i) (N := cs.length) (by omega); omega)
  have e := Int.toNat_of_nonneg (mod_bd (at' - i) (N := cs.length) (by omega)).1
  rw [e] at this
  have e2 : (at' + (at' - i) % (cs.length : Int) * -1) % (cs.length : Int) = i := by
    rw [Int.mul_neg, Int.mul_one, ← Int.sub_eq_add_neg, Int.sub_emod, Int.emod_emod, ← Int.sub_emod, show at' - (at' - i) = i by omega, Int.emod_eq_of_lt hi.1 hi.2]
  rwa [e2] at this
/-! ### Where a field ends -/
/-- How many cells lie between an attribute and the next one. -/
theorem len_eq {cs : List Cell} {s : Int} (h0 : 0 ≤ s ∧ s < cs.length) (hs : stB cs s = true) :
    ∃ L : Nat, L < cs.length ∧ lenM cs s = L ∧ aftM cs s = (s + 1 + L) % cs.length ∧ stB cs ((s + 1 + L) % cs.length) = true ∧ ∀ j : Nat, j < L → stB cs ((s + 1 + j) % cs.length) = false := by
  have hN : 0 < cs.length := by omega
  have hm := mod_bd (s + 1) hN
  have h1 : ¬ lookM cs ((s + 1) % cs.length) 1 < 0 := fun h => by
    have := look_none_all hm h s h0; rw [hs] at this; cases this
  obtain ⟨L, h2, h3, h4, h5⟩ := look_some hm h1
  rw [Int.mul_one, Int.emod_add_emod] at h3
  have ha : aftM cs s = (s + 1 + L) % cs.length := by unfold aftM; rw [if_pos h0, h3]
  refine ⟨L, h2, ?_, ha, by rw [← h3]; exact h4, fun j hj => ?_⟩
  · unfold lenM
    rw [ha]
    have hb := mod_bd (s + 1 + L) hN
    by_cases hlt : s + 1 + L < cs.length
    · rw [Int.emod_eq_of_lt (by omega) hlt, if_neg (by omega)]; omega
    · have : (s + 1 + (L : Int)) % cs.length = s + 1 + L - cs.length := by
        rw [← Int.sub_emod_right, Int.emod_eq_of_lt (by omega) (by omega)]
      rw [this]
      by_cases hL : (L : Int) + 1 = cs.length
      · rw [if_pos (by omega)]; omega
      · rw [if_pos (by omega)]; omega
  · have := h5 j hj
    rwa [Int.mul_one, Int.emod_add_emod] at this
/-- A place of a field has it behind it. -/
theorem bef_in {cs : List Cell} {s : Int} (h0 : 0 ≤ s ∧ s < cs.length) (hs : stB cs s = true) {j : Nat} (hj : (j : Int) ≤ lenM cs s) : befM cs ((s + j) % cs.length) = s := by
  have hN : 0 < cs.length := by omega
  obtain ⟨L, h1, h2, _, _, h5⟩ := len_eq h0 hs
  have hjL : j ≤ L := by omega
  have hm := mod_bd (s + j) hN
  have key : ∀ i : Nat, i ≤ j → ((s + j) % (cs.length : Int) + i * (-1)) % cs.length = (s + (j - i : Nat)) % cs.length := by
    intro i hi
    rw [Int.emod_add_emod]; congr 1; omega
  unfold befM
  have hk : (s + (j : Int)) % cs.length + (j : Nat) * (-1) = _ := rfl
  rw [look_at (k := j) hm (fun i hi => ?_) (by omega) ?_]
  · rw [key j (Nat.le_refl _), Nat.sub_self]; simp only [Int.natCast_zero, Int.add_zero]; exact Int.emod_eq_of_lt h0.1 h0.2
  · rw [key j (Nat.le_refl _), Nat.sub_self]; simp only [Int.natCast_zero, Int.add_zero]; rw [Int.emod_eq_of_lt h0.1 h0.2]; exact hs
  · rw [key i (by omega)]
    have := h5 (j - i - 1) (by omega)
    rwa [show s + 1 + ((j - i - 1 : Nat) : Int) = s + (j - i : Nat) by omega] at this
/-- Each place has a field, if there is one. -/
theorem bef_ex {cs : List Cell} {x : Int} (h0 : 0 ≤ x ∧ x < cs.length) (h : ¬ befM cs x < 0) : 0 ≤ befM cs x ∧ befM cs x < cs.length ∧ stB cs (befM cs x) = true ∧ ∃ j : Nat, (j : Int) ≤ lenM cs (befM cs x) ∧ x = (befM cs x + j) % cs.length := by
  have hN : 0 < cs.length := by omega
  obtain ⟨k, h1, h2, h3, h4⟩ := look_some h0 h
  have e : befM cs x = (x + k * (-1)) % cs.length := h2
  have hb := mod_bd (x + k * (-1)) hN
  have hs : 0 ≤ befM cs x ∧ befM cs x < cs.length := by rw [e]; exact hb
  have hxk : x = (befM cs x + k) % cs.length := by
    rw [e, Int.emod_add_emod, show x + (k : Int) * (-1) + k = x by omega, Int.emod_eq_of_lt h0.1 h0.2]
  refine ⟨hs.1, hs.2, h3, k, ?_, hxk⟩
  obtain ⟨L, q1, q2, _, q4, _⟩ := len_eq hs h3
  rw [q2]
  by_cases hq : k ≤ L
  · omega
  · exfalso
    have := h4 (k - L - 1) (by omega)
    have e2 : (x + ((k - L - 1 : Nat) : Int) * (-1)) % (cs.length : Int) = (befM cs x + 1 + L) % cs.length := by
      conv => lhs; rw [hxk]
      rw [Int.emod_add_emod]; congr 1; omega
    rw [e2, q4] at this
    cases this
theorem bef_self {cs : List Cell} {s : Int} (h0 : 0 ≤ s ∧ s < cs.length) (hs : stB cs s = true) : befM cs s = s := by
  obtain ⟨L, _, h2, _⟩ := len_eq h0 hs
  have := bef_in h0 hs (j := 0) (by omega)
  simp only [Int.natCast_zero, Int.add_zero] at this
  rwa [Int.emod_eq_of_lt h0.1 h0.2] at this
/-! ### The list of all -/
theorem starts_mem {cs : List Cell} {i : Nat} : i ∈ startsN cs ↔ i < cs.length ∧ stB cs i = true := by simp [startsN]
theorem startsL_mem {cs : List Cell} {s : Int} : s ∈ startsL cs ↔ (0 ≤ s ∧ s < cs.length) ∧ stB cs s = true := by
  simp only [startsL, List.mem_map]
  constructor
  · rintro ⟨i, hi, rfl⟩
    have := starts_mem.1 hi
    exact ⟨⟨Int.natCast_nonneg i, by have := this.1; show (i : Int) < _; omega⟩, this.2⟩
  · rintro ⟨h, hs⟩
    exact ⟨s.toNat, starts_mem.2 ⟨by omega, by rw [Int.toNat_of_nonneg h.1]; exact hs⟩, Int.toNat_of_nonneg h.1⟩
theorem starts_sorted (cs : List Cell) : (startsN cs).Pairwise (· < ·) := List.pairwise_lt_range.filter _
theorem starts_lt {cs : List Cell} {i j : Nat} (hij : i < j) (hj : j < (startsN cs).length) : (startsN cs)[i]'(by omega) < (startsN cs)[j] := List.pairwise_iff_getElem.1 (starts_sorted cs) i j (by omega) hj hij
theorem allM_len (cs : List Cell) : (allM cs).length = (startsN cs).length := by simp [allM, startsL]
theorem starts_len_le (cs : List Cell) : (startsN cs).length ≤ cs.length := by
  have := List.length_filter_le (fun i : Nat => stB cs i) (List.range cs.length)
  rw [List.length_range] at this; exact this
theorem moveN_at {n a b : Int} (h : n ≠ 0) : moveN n a b = (a + b) % n := by unfold moveN; rw [if_neg h]
theorem look_bd {cs : List Cell} (at' step : Int) : -1 ≤ lookM cs at' step ∧ lookM cs at' step < max cs.length 1 := by
  unfold lookM
  split
  · rename_i h0
    cases hf : lookD cs at' step with
    | none => simp only; omega
    | some k => have := mod_bd (at' + k * step) (N := cs.length) (by omega); simp only; omega
  · omega
theorem aft_bd {cs : List Cell} {i : Int} (h0 : 0 ≤ i ∧ i < cs.length) : -1 ≤ aftM cs i ∧ aftM cs i < cs.length := by
  unfold aftM
  rw [if_pos h0]
  have := look_bd (cs := cs) ((i + 1) % cs.length) 1
  omega
theorem aft_in {cs : List Cell} {i : Int} (h0 : 0 ≤ i ∧ i < cs.length) : aftM cs i = lookM cs ((i + 1) % cs.length) 1 := by unfold aftM; rw [if_pos h0]
theorem len_lt {cs : List Cell} {i : Int} (h : aftM cs i - i - 1 < 0) : aftM cs i - i - 1 + cs.length = lenM cs i := by unfold lenM; rw [if_pos h]
theorem len_ge {cs : List Cell} {i : Int} (h : ¬ aftM cs i - i - 1 < 0) : aftM cs i - i - 1 = lenM cs i := by unfold lenM; rw [if_neg h]
theorem getC_w {cs : List Cell} (h : Cws cs) (i : Int) : 0 ≤ (getC cs i).b ∧ (getC cs i).b ≤ 255 := by
  unfold getC
  split
  · rename_i hi
    rw [List.getD]
    cases hx : cs[i.toNat]? with
    | none => exact zc_w
    | some x => exact h x (List.mem_of_getElem? hx)
  · exact zc_w
theorem bef_rng {cs : List Cell} {i : Int} (h : ¬ befM cs i < 0) : 0 ≤ befM cs i ∧ befM cs i < cs.length := by
  by_cases h0 : 0 ≤ i ∧ i < cs.length
  · have := bef_ex h0 h; exact ⟨this.1, this.2.1⟩
  · unfold befM at h; rw [look_out h0] at h; exact absurd (by omega) h
theorem of_yes {cs : List Cell} {i : Int} (h : ¬ befM cs i < 0) : Ending.returned (.tuple #[.agg (fv (atM cs (befM cs i))).toArray, .bool true]) = Ending.returned (.tuple #[.agg (fv (ofM cs i)).toArray, .bool (ofB cs i)]) := by
  unfold ofM ofB; rw [if_neg h, decide_eq_true h]
theorem of_not {cs : List Cell} {i : Int} (h : befM cs i < 0) : Ending.returned (.tuple #[.agg (fv zf).toArray, .bool false]) = Ending.returned (.tuple #[.agg (fv (ofM cs i)).toArray, .bool (ofB cs i)]) := by
  unfold ofM ofB; rw [if_pos h, decide_eq_false (by omega)]
theorem of_a {cs : List Cell} (h : Cws cs) (i : Int) : 0 ≤ (ofM cs i).a ∧ (ofM cs i).a ≤ 255 := by
  unfold ofM
  split
  · exact ⟨by decide, by decide⟩
  · show 0 ≤ (getC cs _).b % 64 ∧ (getC cs _).b % 64 ≤ 255
    omega
theorem open_no {cs : List Cell} {i : Int} (h : ofB cs i = false) : openM cs i = decide (0 ≤ i ∧ i < cs.length) := by
  unfold openM; rw [if_pos (by simpa [ofB] using h)]
theorem open_yes {cs : List Cell} {i : Int} (h : ofB cs i = true) (h2 : (ofM cs i).s ≠ i) : openM cs i = !decide ((ofM cs i).a / 32 % 2 = 1) := by
  have h3 : ¬ befM cs i < 0 := by simpa [ofB] using h
  unfold ofM at h2 ⊢
  rw [if_neg h3] at h2 ⊢
  unfold openM
  rw [if_neg h3, decide_eq_true (show befM cs i ≠ i from h2)]
  rfl
theorem open_self {cs : List Cell} {i : Int} (h : ofB cs i = true) (h2 : ¬ (ofM cs i).s ≠ i) : openM cs i = false := by
  have h3 : ¬ befM cs i < 0 := by simpa [ofB] using h
  unfold ofM at h2
  rw [if_neg h3] at h2
  unfold openM
  rw [if_neg h3, decide_eq_false (show ¬ befM cs i ≠ i from h2)]
  rfl
/-- A cell's attribute, modified or not. -/
def modX (q : Bool) (x : Cell) : Cell := ⟨if q = true then x.b - x.b % 2 + 1 else x.b - x.b % 2, x.ge, x.st, x.l, x.c⟩
def modC (q : Bool) (cs : List Cell) (i : Int) : List Cell := setC cs i (modX q (getC cs i))
def markC (cs : List Cell) (i : Int) : List Cell := if befM cs i < 0 then cs else modC true cs (befM cs i)
theorem modC_len (q : Bool) (cs : List Cell) (i : Int) : (modC q cs i).length = cs.length := setC_len _ _ _
theorem markC_len (cs : List Cell) (i : Int) : (markC cs i).length = cs.length := by unfold markC; split; rfl; exact modC_len _ _ _
theorem mark_no {cs : List Cell} {i : Int} (h : befM cs i < 0) : markC cs i = cs := by unfold markC; rw [if_pos h]
theorem mark_yes {cs : List Cell} {i : Int} (h : ¬ befM cs i < 0) : markC cs i = modC true cs (befM cs i) := by unfold markC; rw [if_neg h]
theorem modX_w {q : Bool} {x : Cell} (h : Cw x) : Cw (modX q x) := by
  obtain ⟨h1, h2⟩ := h
  unfold modX Cw
  cases q <;> simp <;> omega
theorem modC_w {q : Bool} {cs : List Cell} (h : Cws cs) (i : Int) : Cws (modC q cs i) := h.setC (modX_w (getC_w h i)) _
theorem markC_w {cs : List Cell} (h : Cws cs) (i : Int) : Cws (markC cs i) := by unfold markC; split; exact h; exact modC_w h _
/-! ### Rounds -/
def cntS (cs : List Cell) (i : Nat) : Nat := ((List.range i).filter fun j : Nat => stB cs j).length
theorem cnt_T {cs : List Cell} {i : Nat} (h : stB cs i = true) : cntS cs (i + 1) = cntS cs i + 1 := by simp [cntS, List.range_succ, List.filter_append, h]
theorem cnt_F {cs : List Cell} {i : Nat} (h : stB cs i = false) : cntS cs (i + 1) = cntS cs i := by simp [cntS, List.range_succ, List.filter_append, h]
theorem cnt_end (cs : List Cell) : cntS cs cs.length = (startsN cs).length := rfl
theorem starts_at {cs : List Cell} {i : Nat} (hi : i < cs.length) (h : stB cs i = true) : (startsN cs)[cntS cs i]? = some i := by
  have e : List.range cs.length = List.range i ++ i :: List.range' (i + 1) (cs.length - i - 1) := by
    have h3 : List.range' 0 i ++ List.range' (0 + i) (cs.length - i) = List.range' 0 (i + (cs.length - i)) := List.range'_append_1
    rw [Nat.zero_add, show i + (cs.length - i) = cs.length by omega] at h3
    rw [List.range_eq_range', List.range_eq_range', ← h3]
    congr 1
    rw [show cs.length - i = (cs.length - i - 1) + 1 by omega, List.range'_succ]; rfl
  unfold startsN cntS
  rw [e, List.filter_append, List.getElem?_append_right (Nat.le_refl _), Nat.sub_self, List.filter_cons, if_pos h]
  rfl
theorem places_len {N : Nat} {f : Fld} (h : 0 ≤ f.s ∧ f.s < N) : ((placesL N f).length : Int) = min (max f.l 0) N := by
  unfold placesL
  rw [if_pos h, List.length_map, List.length_range]; omega
theorem places_no {N : Nat} {f : Fld} (h : ¬ (0 ≤ f.s ∧ f.s < N)) : placesL N f = [] := by unfold placesL; rw [if_neg h]
theorem places_at {N : Nat} {f : Fld} {k : Nat} (h : k < (placesL N f).length) : (placesL N f)[k]? = some ((f.s + (k + 1 : Nat)) % N) := by
  unfold placesL at *
  split at h
  · rename_i h0
    rw [if_pos h0]
    simp only [List.length_map, List.length_range] at h
    simp [h]
  · simp at h
theorem places_get {N : Nat} {f : Fld} {k : Nat} {x : Int} (h : (placesL N f)[k]? = some x) : 0 ≤ x ∧ x < N := by
  have hk := (List.getElem?_eq_some_iff.1 h).1
  have h2 := places_at hk
  rw [h] at h2
  have h3 : x = (f.s + (k + 1 : Nat)) % N := by simpa using h2
  have hN : 0 < N := by
    rcases Nat.eq_zero_or_pos N with h0 | h0
    · subst h0; rw [places_no (by omega)] at hk; simp at hk
    · exact h0
  rw [h3]; exact mod_bd _ hN
theorem places_le (N : Nat) (f : Fld) : (placesL N f).length ≤ N := by
  by_cases h : 0 ≤ f.s ∧ f.s < N
  · have := places_len h; omega
  · rw [places_no h]; simp
theorem data_len (cs : List Cell) (f : Fld) : (dataM cs f).length = (placesL cs.length f).length := by simp [dataM]
theorem data_step {cs : List Cell} {f : Fld} {k : Nat} {x : Int} (h : (placesL cs.length f)[k]? = some x) : (dataM cs f).take k ++ [(getC cs x).b] = (dataM cs f).take (k + 1) := by
  rw [List.take_add_one]
  congr 1
  simp [dataM, h]
theorem take_step {α : Type} {l : List α} {k : Nat} {x : α} (h : l[k]? = some x) : l.take k ++ [x] = l.take (k + 1) := by rw [List.take_add_one, h]; rfl
theorem allM_at {cs : List Cell} {k s : Nat} (h : (startsN cs)[k]? = some s) : (allM cs)[k]? = some (atM cs s) := by simp [allM, startsL, h]
theorem at_a {cs : List Cell} (h : Cws cs) (i : Int) : 0 ≤ (atM cs i).a ∧ (atM cs i).a ≤ 255 := by
  show 0 ≤ (getC cs _).b % 64 ∧ (getC cs _).b % 64 ≤ 255
  omega
/-! ### Where one may type first -/
def noneH (cs : List Cell) (k : Nat) : Prop := ∀ g ∈ (allM cs).take k, homeF g = false
theorem noneH_0 (cs : List Cell) : noneH cs 0 := fun g hg => by simp at hg
theorem noneH_step {cs : List Cell} {k s : Nat} (h : noneH cs k) (hx : (startsN cs)[k]? = some s) (hf : homeF (atM cs s) = false) : noneH cs (k + 1) := by
  intro g hg
  rw [← take_step (allM_at hx)] at hg
  rcases List.mem_append.1 hg with hg | hg
  · exact h g hg
  · simp at hg; subst hg; exact hf
theorem find_take {α : Type} {p : α → Bool} : ∀ {l : List α} {k : Nat} {x : α}, l[k]? = some x → (∀ y ∈ l.take k, p y = false) → p x = true → l.find? p = some x
  | [], k, x, h, _, _ => by simp at h
  | a :: l, 0, x, h, _, hp => by simp at h; subst h; simp [hp]
  | a :: l, k + 1, x, h, hn, hp => by
    have ha := hn a (by simp)
    rw [List.find?_cons, ha]
    exact find_take (by simpa using h) (fun y hy => hn y (by simp [hy])) hp
theorem home_at {cs : List Cell} {k s : Nat} (h : noneH cs k) (hx : (startsN cs)[k]? = some s) (hf : homeF (atM cs s) = true) : ((s : Int) + 1) % cs.length = homeM cs := by
  unfold homeM
  rw [find_take (allM_at hx) h hf]; rfl
theorem home_none {cs : List Cell} (h : noneH cs (startsN cs).length) : homeM cs = 0 := by
  unfold homeM
  have : (allM cs).find? homeF = none := by
    rw [List.find?_eq_none]
    intro g hg
    rw [h g (by rw [List.take_of_length_le (by rw [allM_len]; exact Nat.le_refl _)]; exact hg)]; simp
  rw [this]
theorem homeF_T {f : Fld} (h : 0 < f.l) (h2 : ¬ f.a / 32 % 2 = 1) : homeF f = true := by unfold homeF protB; simp [h, h2]
theorem homeF_l {f : Fld} (h : ¬ 0 < f.l) : homeF f = false := by unfold homeF; simp [h]
theorem homeF_p {f : Fld} (h2 : f.a / 32 % 2 = 1) : homeF f = false := by unfold homeF protB; simp [h2]
/-! ### All that are modified, not so any more -/
def oddB (cs : List Cell) (s : Nat) : Bool := decide ((getC cs s).b % 2 = 1)
def unmC (cs : List Cell) (l : List Nat) : List Cell := l.foldl (fun c s => if oddB cs s = true then modC false c s else c) cs
theorem unm_step {cs : List Cell} {l : List Nat} {k s : Nat} (h : l[k]? = some s) : unmC cs (l.take (k + 1)) = if oddB cs s = true then modC false (unmC cs (l.take k)) s else unmC cs (l.take k) := by
  rw [← take_step h]; unfold unmC; rw [List.foldl_append]; rfl
theorem unm_ind {P : List Cell → Prop} {cs : List Cell} (h0 : P cs) (hs : ∀ c s, P c → P (modC false c s)) : ∀ l : List Nat, P (unmC cs l) := by
  intro l
  suffices h : ∀ (l : List Nat) (c : List Cell), P c → P (l.foldl (fun c s => if oddB cs s = true then modC false c s else c) c) from h l cs h0
  intro l
  induction l with
  | nil => intro c h; exact h
  | cons a l ih =>
    intro c h
    rw [List.foldl_cons]
    split
    · exact ih _ (hs c a h)
    · exact ih _ h
theorem unm_len (cs : List Cell) (l : List Nat) : cs.length = (unmC cs l).length := (unm_ind (P := fun c => c.length = cs.length) rfl (fun c s h => by rw [modC_len]; exact h) l).symm
theorem unm_w {cs : List Cell} (h : Cws cs) (l : List Nat) : Cws (unmC cs l) := unm_ind h (fun c s h => modC_w h s) l
theorem mod_get {q : Bool} {cs : List Cell} {i j : Int} : getC (modC q cs i) j = if i = j ∧ 0 ≤ i ∧ i < cs.length then modX q (getC cs i) else getC cs j := by
  unfold modC
  by_cases hi : 0 ≤ i ∧ i < cs.length
  · by_cases hj : 0 ≤ j ∧ j < cs.length
    · rw [setC_in _ hi.1 hi.2, getC_set hi hj]
      by_cases h : i = j
      · rw [if_pos h, if_pos ⟨h, hi⟩]
      · rw [if_neg h, if_neg (fun h2 => h h2.1)]
    · rw [getC_out (by rw [setC_len]; exact hj), getC_out hj, if_neg]
      rintro ⟨rfl, _⟩
      exact hj hi
  · rw [setC_out _ hi, if_neg]
    rintro ⟨_, h2⟩
    exact hi h2
theorem mod_st {q : Bool} {cs : List Cell} {i j : Int} : stB (modC q cs i) j = stB cs j := by
  show (getC _ _).st = (getC _ _).st
  rw [mod_get]
  split
  · rename_i h; rw [← h.1]; rfl
  · rfl
theorem unm_st (cs : List Cell) (l : List Nat) (i : Int) : stB (unmC cs l) i = stB cs i := unm_ind (P := fun c => stB c i = stB cs i) rfl (fun c s h => by rw [mod_st]; exact h) l
theorem unm_get {cs : List Cell} {s : Nat} : ∀ {l : List Nat}, s ∉ l → getC (unmC cs l) s = getC cs s := by
  intro l hl
  suffices h : ∀ (l : List Nat) (c : List Cell), s ∉ l → getC (l.foldl (fun c s => if oddB cs s = true then modC false c s else c) c) s = getC c s from h l cs hl
  intro l
  induction l with
  | nil => intro c _; rfl
  | cons a l ih =>
    intro c h
    rw [List.foldl_cons, ih _ (fun hm => h (by simp [hm]))]
    split
    · rw [mod_get, if_neg]
      rintro ⟨h2, _⟩
      exact h (by simp; omega)
    · rfl
theorem starts_take {cs : List Cell} {k s : Nat} (hx : (startsN cs)[k]? = some s) : s ∉ (startsN cs).take k := by
  intro hm
  obtain ⟨j, hj, he⟩ := List.getElem_of_mem hm
  obtain ⟨hk, hx2⟩ := List.getElem?_eq_some_iff.1 hx
  rw [List.length_take] at hj
  have := starts_lt (cs := cs) (i := j) (j := k) (by omega) hk
  rw [List.getElem_take] at he
  omega
/-- What the round sees of an attribute is what lay there. -/
theorem unm_odd {cs : List Cell} {k s : Nat} (hx : (startsN cs)[k]? = some s) : (atM (unmC cs ((startsN cs).take k)) s).a % 2 = 1 ↔ oddB cs s = true := by
  show (getC _ _).b % 64 % 2 = 1 ↔ _
  rw [unm_get (starts_take hx)]
  unfold oddB
  rw [decide_eq_true_eq]; omega
def unmN (cs : List Cell) (k : Nat) : Nat := ((startsN cs).take k).countP (oddB cs)
theorem unmN_T {cs : List Cell} {k s : Nat} (hx : (startsN cs)[k]? = some s) (h : oddB cs s = true) : unmN cs (k + 1) = unmN cs k + 1 := by
  unfold unmN; rw [← take_step hx, List.countP_append]; simp [h]
theorem unmN_F {cs : List Cell} {k s : Nat} (hx : (startsN cs)[k]? = some s) (h : ¬ oddB cs s = true) : unmN cs (k + 1) = unmN cs k := by
  unfold unmN; rw [← take_step hx, List.countP_append]; simp [h]
theorem unmN_le (cs : List Cell) (k : Nat) : unmN cs k ≤ cs.length := by
  have h1 := List.countP_le_length (p := oddB cs) (l := (startsN cs).take k)
  have h2 := starts_len_le cs
  rw [List.length_take] at h1
  unfold unmN; omega
end Gs
