/-
  2 texts in one: what each theorem says stands at it. No condition but the ones that each states.
-/
import Derived.Test.YtjdoakbadehicaaGreatDoorGramReadsA
import Derived.Test.YtjdoakbadehicaaGreatDoorPlaneLaws2
namespace Gs
open Go Go.Sh
def ch (x : Int) : Cell := ⟨x, false, false, 0, 0⟩
/-- A field of so many cells, into which l was typed; a protected one behind it. -/
def Typ (cs : List Cell) (z : Nat) (l : List Int) : Prop :=
  cs.length = z + 3 ∧ getC cs 0 = ⟨if l = [] then 0 else 1, false, true, 0, 0⟩ ∧ (∀ (j : Nat) x, l[j]? = some x → getC cs ((j : Int) + 1) = ch x) ∧
    (∀ i : Int, l.length < i ∧ i ≤ z → getC cs i = zc) ∧ getC cs ((z : Int) + 1) = ⟨48, false, true, 0, 0⟩ ∧ getC cs ((z : Int) + 2) = zc
theorem getC_rep (n : Nat) (i : Int) : getC (List.replicate n zc) i = zc := by
  unfold getC
  split
  · rename_i h
    rw [List.getD_eq_getElem?_getD, List.getElem?_replicate]
    split <;> rfl
  · rfl
theorem typ_new (z : Nat) : Typ (setC (setC (List.replicate (z + 3) zc) 0 ⟨0, false, true, 0, 0⟩) ((z : Int) + 1) ⟨48, false, true, 0, 0⟩) z [] := by
  have h0 : (List.replicate (z + 3) zc).length = z + 3 := List.length_replicate
  have h1 : (setC (List.replicate (z + 3) zc) 0 ⟨0, false, true, 0, 0⟩).length = z + 3 := by rw [setC_len, h0]
  refine ⟨by rw [setC_len, h1], ?_, fun j x h => by simp at h, fun i hi => ?_, ?_, ?_⟩
  · rw [getC_old (by omega) (by omega) (by omega), getC_new (by omega)]; rfl
  · simp only [List.length_nil] at hi
    rw [getC_old (by omega) (by omega) (by omega), getC_old (by omega) (by omega) (by omega), getC_rep]
  · rw [getC_new (by omega)]
  · rw [getC_old (by omega) (by omega) (by omega), getC_old (by omega) (by omega) (by omega), getC_rep]
section
variable {cs : List Cell} {z : Nat} {l : List Int}
theorem Typ.st (h : Typ cs z l) (hl : l.length ≤ z) {i : Int} (hi : 1 ≤ i ∧ i ≤ z) : stB cs i = false := by
  obtain ⟨_, _, h2, h3, _, _⟩ := h
  show (getC cs i).st = false
  by_cases hj : i ≤ l.length
  · obtain ⟨j, rfl⟩ : ∃ j : Nat, i = (j : Int) + 1 := ⟨(i - 1).toNat, by omega⟩
    have hjl : j < l.length := by omega
    rw [h2 j l[j] (List.getElem?_eq_getElem hjl)]; rfl
  · rw [h3 i (by omega)]; rfl
theorem Typ.st0 (h : Typ cs z l) : stB cs 0 = true := by show (getC cs 0).st = true; rw [h.2.1]
theorem Typ.st1 (h : Typ cs z l) : stB cs ((z : Int) + 1) = true := by show (getC cs _).st = true; rw [h.2.2.2.2.1]
theorem Typ.st2 (h : Typ cs z l) : stB cs ((z : Int) + 2) = false := by show (getC cs _).st = false; rw [h.2.2.2.2.2]; rfl
theorem Typ.aft0 (h : Typ cs z l) (hl : l.length ≤ z) : aftM cs 0 = z + 1 := by
  have hn := h.1
  rw [aft_in (by omega), show ((0 : Int) + 1) % cs.length = 1 from Int.emod_eq_of_lt (by omega) (by omega)]
  have := look_at (cs := cs) (at' := 1) (step := 1) (k := z) (by omega) (fun j hj => by
    rw [show ((1 : Int) + j * 1) = j + 1 by omega, Int.emod_eq_of_lt (by omega) (by omega)]
    exact h.st hl (by omega)) (by omega) (by
    rw [show ((1 : Int) + z * 1) = z + 1 by omega, Int.emod_eq_of_lt (by omega) (by omega)]
    exact h.st1)
  rw [this, show ((1 : Int) + z * 1) = z + 1 by omega, Int.emod_eq_of_lt (by omega) (by omega)]
theorem Typ.len0 (h : Typ cs z l) (hl : l.length ≤ z) : lenM cs 0 = z := by
  unfold lenM
  rw [h.aft0 hl, if_neg (by omega)]; omega
theorem Typ.at0 (h : Typ cs z l) (hl : l.length ≤ z) : atM cs 0 = ⟨0, z, if l = [] then 0 else 1⟩ := by
  unfold atM
  rw [h.len0 hl, h.2.1]
  split <;> rfl
theorem Typ.bef (h : Typ cs z l) (hl : l.length ≤ z) {i : Int} (hi : 0 ≤ i ∧ i ≤ z) : befM cs i = 0 := by
  have hn := h.1
  obtain ⟨j, rfl⟩ := Int.eq_ofNat_of_zero_le hi.1
  have := bef_in (cs := cs) (s := 0) (by omega) h.st0 (j := j) (by rw [h.len0 hl]; omega)
  rwa [Int.zero_add, Int.emod_eq_of_lt (by omega) (by omega)] at this
theorem Typ.of (h : Typ cs z l) (hl : l.length ≤ z) {i : Int} (hi : 0 ≤ i ∧ i ≤ z) : ofM cs i = ⟨0, z, if l = [] then 0 else 1⟩ ∧ ofB cs i = true := by
  unfold ofM ofB
  rw [h.bef hl hi]
  exact ⟨by rw [if_neg (by omega), h.at0 hl], by decide⟩
theorem Typ.open' (h : Typ cs z l) (hl : l.length ≤ z) {i : Int} (hi : 1 ≤ i ∧ i ≤ z) : openM cs i = true := by
  unfold openM
  rw [h.bef hl (by omega), if_neg (by omega), h.at0 hl]
  unfold protB
  split <;> (rw [decide_eq_true (by omega)]; rfl)
theorem Typ.starts (h : Typ cs z l) (hl : l.length ≤ z) : startsN cs = [0, z + 1] := by
  unfold startsN
  rw [h.1, show z + 3 = (1 + z) + 2 from by omega, List.range_add, List.filter_append, List.range_add, List.filter_append]
  have e0 : (List.range 1).filter (fun i => stB cs (i : Nat)) = [0] := by
    have := h.st0
    simp [List.range_succ, this]
  have e1 : ((List.range z).map fun x => 1 + x).filter (fun i => stB cs (i : Nat)) = [] := by
    rw [List.filter_eq_nil_iff]
    intro x hx
    obtain ⟨j, hj, rfl⟩ := List.mem_map.1 hx
    have := List.mem_range.1 hj
    rw [h.st hl (i := ((1 + j : Nat) : Int)) (by omega)]
    decide
  have e2 : ((List.range 2).map fun x => 1 + z + x).filter (fun i => stB cs (i : Nat)) = [z + 1] := by
    have h1 := h.st1
    have h2 := h.st2
    have a1 : stB cs ((1 + z : Nat) : Int) = true := by rw [show ((1 + z : Nat) : Int) = z + 1 by omega]; exact h1
    have a2 : stB cs ((1 + z + 1 : Nat) : Int) = false := by rw [show ((1 + z + 1 : Nat) : Int) = z + 2 by omega]; exact h2
    rw [show List.range 2 = [0, 1] from rfl]
    simp only [List.map_cons, List.map_nil, Nat.add_zero, List.filter_cons, a1, a2, List.filter_nil]
    simp [Nat.add_comm]
  rw [e0, e1, e2]; rfl
theorem Typ.all (h : Typ cs z l) (hl : l.length ≤ z) : ∃ y, allM cs = [⟨0, z, if l = [] then 0 else 1⟩, ⟨z + 1, y, 48⟩] := by
  refine ⟨lenM cs ((z : Int) + 1), ?_⟩
  unfold allM startsL
  rw [h.starts hl]
  show [atM cs 0, atM cs ((z + 1 : Nat) : Int)] = _
  rw [h.at0 hl]
  congr 1
  unfold atM
  rw [show ((z + 1 : Nat) : Int) = z + 1 by omega, h.2.2.2.2.1]
  rfl
theorem Typ.home (h : Typ cs z l) (hl : l.length ≤ z) (hz : 1 ≤ z) : homeM cs = 1 := by
  have hn := h.1
  have := home_at (cs := cs) (k := 0) (s := 0) (noneH_0 _) (by rw [h.starts hl]; rfl) (by
    rw [show ((0 : Nat) : Int) = 0 from rfl, h.at0 hl]
    unfold homeF protB
    dsimp only
    rw [decide_eq_true (by omega)]
    split <;> decide)
  rw [← this, show (((0 : Nat) : Int) + 1) = 1 from rfl, Int.emod_eq_of_lt (by omega) (by omega)]
/-- One more is typed. -/
theorem Typ.step (h : Typ cs z l) (hl : l.length < z) (x : Int) : Typ (markC (setC cs ((l.length : Int) + 1) (ch x)) ((l.length : Int) + 1)) z (l ++ [x]) := by
  have hn := h.1
  have hc : (setC cs ((l.length : Int) + 1) (ch x)).length = z + 3 := by rw [setC_len, hn]
  -- the cell alone is no attribute: the fields are as they were
  have hst : ∀ i : Int, stB (setC cs ((l.length : Int) + 1) (ch x)) i = stB cs i := by
    intro i
    by_cases hi : 0 ≤ i ∧ i < cs.length
    · by_cases he : i = (l.length : Int) + 1
      · subst he
        show (getC _ _).st = (getC _ _).st
        rw [getC_new (by omega), h.2.2.2.1 _ (by omega)]; rfl
      · show (getC _ _).st = (getC _ _).st
        rw [getC_old (by omega) hi he]
    · show (getC _ _).st = (getC _ _).st
      rw [getC_out hi, getC_out (by rw [setC_len]; exact hi)]
  have hb : befM (setC cs ((l.length : Int) + 1) (ch x)) ((l.length : Int) + 1) = 0 := by
    have e : befM (setC cs ((l.length : Int) + 1) (ch x)) ((l.length : Int) + 1) = befM cs ((l.length : Int) + 1) := by
      unfold befM lookM lookD
      rw [setC_len]
      simp only [hst]
    rw [e]; exact h.bef (by omega) (by omega)
  unfold markC
  rw [hb, if_neg (by omega)]
  unfold modC
  have h00 : getC (setC cs ((l.length : Int) + 1) (ch x)) 0 = getC cs 0 := getC_old (by omega) (by omega) (by omega)
  have hx0 : modX true (getC (setC cs ((l.length : Int) + 1) (ch x)) 0) = ⟨1, false, true, 0, 0⟩ := by
    rw [h00, h.2.1]
    unfold modX
    rw [if_pos rfl]
    by_cases hl0 : l = []
    · rw [if_pos hl0]; rfl
    · rw [if_neg hl0]; rfl
  rw [hx0]
  refine ⟨by rw [setC_len, hc], ?_, fun j y hj => ?_, fun i hi => ?_, ?_, ?_⟩
  · rw [getC_new (by omega), if_neg (by simp)]
  · have hjl : j < (l ++ [x]).length := (List.getElem?_eq_some_iff.1 hj).1
    simp only [List.length_append, List.length_cons, List.length_nil] at hjl
    rw [getC_old (by omega) (by omega) (by omega)]
    by_cases he : j = l.length
    · subst he
      rw [List.getElem?_append_right (Nat.le_refl _)] at hj
      simp at hj
      subst hj
      rw [getC_new (by omega)]
    · rw [List.getElem?_append_left (by omega)] at hj
      rw [getC_old (by omega) (by omega) (by omega)]
      exact h.2.2.1 j y hj
  · simp only [List.length_append, List.length_cons, List.length_nil] at hi
    rw [getC_old (by omega) (by omega) (by omega), getC_old (by omega) (by omega) (by omega)]
    exact h.2.2.2.1 i (by omega)
  · rw [getC_old (by omega) (by omega) (by omega), getC_old (by omega) (by omega) (by omega)]
    exact h.2.2.2.2.1
  · rw [getC_old (by omega) (by omega) (by omega), getC_old (by omega) (by omega) (by omega)]
    exact h.2.2.2.2.2
/-- What is sent of it. -/
theorem Typ.want (h : Typ cs z l) (hl : l.length ≤ z) (hs : ∀ x ∈ l, 64 ≤ x) : wantM cs = if l = [] then [] else [(1, l.map ch)] := by
  have hn := h.1
  obtain ⟨y, ha⟩ := h.all hl
  unfold wantM
  rw [if_neg (by rw [ha]; simp), ha]
  by_cases he : l = []
  · rw [if_pos he, if_pos he]; rfl
  · rw [if_neg he, if_neg he]
    have o1 : oddF ⟨0, z, 1⟩ = true := rfl
    have o2 : oddF ⟨z + 1, y, 48⟩ = false := rfl
    simp only [List.filter_cons, o1, o2, List.filter_nil]
    simp only [if_true, Bool.false_eq_true, if_false, List.map_cons, List.map_nil]
    rw [show ((0 : Int) + 1) % (cs.length : Int) = 1 from Int.emod_eq_of_lt (by omega) (by omega)]
    congr 2
    -- its places are those from 1 on
    have hp : placesL cs.length ⟨0, z, 1⟩ = (List.range z).map fun k : Nat => ((k : Int) + 1) := by
      unfold placesL
      rw [if_pos (by show (0 : Int) ≤ 0 ∧ (0 : Int) < _; omega), show (min (max (z : Int) 0) (cs.length : Nat)).toNat = z by omega]
      refine List.map_congr_left fun k hk => ?_
      have := List.mem_range.1 hk
      show ((0 : Int) + (k + 1 : Nat)) % _ = _
      rw [Int.emod_eq_of_lt (by omega) (by omega)]; omega
    rw [hp]
    unfold standL
    rw [List.map_map]
    obtain ⟨m, rfl⟩ : ∃ m, z = l.length + m := ⟨z - l.length, by omega⟩
    rw [List.range_add, List.map_append, List.filter_append, List.map_append]
    have e1 : (List.range l.length).map (getC cs ∘ fun k : Nat => ((k : Int) + 1)) = l.map ch := by
      refine List.ext_getElem? fun j => ?_
      rw [List.getElem?_map, List.getElem?_map]
      by_cases hj : j < l.length
      · rw [List.getElem?_range hj, List.getElem?_eq_getElem hj]
        simp only [Option.map_some, Function.comp]
        rw [h.2.2.1 j l[j] (List.getElem?_eq_getElem hj)]
      · rw [List.getElem?_eq_none (by simpa using hj), List.getElem?_eq_none (by omega)]; rfl
    have e2 : (((List.range m).map fun x => l.length + x).map (getC cs ∘ fun k : Nat => ((k : Int) + 1))).filter (fun c => !emptyB c) = [] := by
      rw [List.filter_eq_nil_iff]
      intro c hc
      obtain ⟨k, hk, rfl⟩ := List.mem_map.1 hc
      obtain ⟨j, hj, rfl⟩ := List.mem_map.1 hk
      have := List.mem_range.1 hj
      simp only [Function.comp]
      rw [h.2.2.2.1 _ (by omega)]
      decide
    rw [e1, e2, List.map_nil, List.append_nil]
    have e3 : (l.map ch).filter (fun c => !emptyB c) = l.map ch := by
      rw [List.filter_eq_self]
      intro c hc
      obtain ⟨x, hx, rfl⟩ := List.mem_map.1 hc
      have := hs x hx
      unfold emptyB ch
      dsimp only
      rw [decide_eq_false (by omega)]; rfl
    rw [e3, List.map_map]
    refine List.map_congr_left fun x hx => ?_
    have := hs x hx
    unfold standM ch
    simp only [Function.comp, Bool.false_eq_true, if_false]
    rw [if_pos (by unfold plainB; rw [decide_eq_true this]; rfl)]
end
theorem enc_rng {page : Int} : ∀ {rs l : List Int}, enc page rs = some l → ∀ x ∈ l, 64 ≤ x ∧ x ≤ 254
  | [], l, h, x, hx => by
    have : l = [] := (Option.some.inj h).symm
    rw [this] at hx; cases hx
  | r :: rs, l, h, x, hx => by
    unfold enc at h
    cases hb : bof page r with
    | none => rw [hb] at h; simp at h
    | some b =>
      rw [hb] at h
      cases he : enc page rs with
      | none => rw [he] at h; simp at h
      | some m =>
        rw [he] at h
        have hl : l = (b : Int) :: m := by simpa using h.symm
        rw [hl] at hx
        rcases List.mem_cons.1 hx with rfl | hx
        · have := (bof_lt hb).2.1
          unfold seen at this
          exact of_decide_eq_true this
        · exact enc_rng he x hx
theorem home_bd {cs : List Cell} (h : 0 < cs.length) : 0 ≤ homeM cs ∧ homeM cs < cs.length := by
  unfold homeM
  split
  · exact mod_bd _ h
  · exact ⟨by omega, by omega⟩
theorem of_cur {cs : List Cell} {i : Int} (h : openM cs i = true) : 0 ≤ i ∧ i < cs.length := by
  unfold openM at h
  split at h
  · exact of_decide_eq_true h
  · rename_i hb
    exact Classical.not_not.1 fun hn => hb (by unfold befM; rw [look_out hn]; decide)
end Gs
namespace Gs
open Go Go.Sh
theorem bytes_rng {page : Int} {s : ByteArray} : ∀ x ∈ (bytesOf page s).getD [], 64 ≤ x ∧ x ≤ 254 := by
  intro x hx
  cases h : bytesOf page s with
  | none => rw [h] at hx; cases hx
  | some l => rw [h] at hx; exact enc_rng h x hx
theorem cells_1 {n : Int} (h : 1 ≤ n ∧ n ≤ 132) : cellsN 1 n = n := by
  unfold cellsN
  rw [if_neg (by omega)]; omega
section
variable {cs : List Cell} {z : Nat} {l : List Int}
theorem Typ.cws (h : Typ cs z l) (hl : l.length ≤ z) (hb : ∀ x ∈ l, 0 ≤ x ∧ x ≤ 255) : Cws cs := by
  intro c hc
  obtain ⟨i, hi⟩ := List.getElem?_of_mem hc
  have hil := (List.getElem?_eq_some_iff.1 hi).1
  have hg : getC cs i = c := getC_in (by omega) (by simpa using hi)
  have hn := h.1
  show 0 ≤ c.b ∧ c.b ≤ 255
  rw [← hg]
  by_cases h0 : i = 0
  · subst h0
    rw [show ((0 : Nat) : Int) = 0 from rfl, h.2.1]
    dsimp only
    split <;> omega
  by_cases h1 : i ≤ l.length
  · obtain ⟨j, rfl⟩ : ∃ j, i = j + 1 := ⟨i - 1, by omega⟩
    have hj : j < l.length := by omega
    have := h.2.2.1 j l[j] (List.getElem?_eq_getElem hj)
    rw [show ((j + 1 : Nat) : Int) = (j : Int) + 1 by omega, this]
    exact hb _ (List.getElem_mem hj)
  by_cases h2 : i ≤ z
  · rw [h.2.2.2.1 i (by omega)]; decide
  by_cases h3 : i = z + 1
  · subst h3
    rw [show ((z + 1 : Nat) : Int) = (z : Int) + 1 by omega, h.2.2.2.2.1]; decide
  · obtain rfl : i = z + 2 := by omega
    rw [show ((z + 2 : Nat) : Int) = (z : Int) + 2 by omega, h.2.2.2.2.2]; decide
theorem Typ.num (h : Typ cs z l) (hl : l.length ≤ z) {i : Int} (hi : 0 ≤ i ∧ i ≤ z) : ¬ (ofM cs i).a / 16 % 2 = 1 := by
  rw [(h.of hl hi).1]
  dsimp only
  split <;> omega
/-- What a key for x makes of the cells. -/
def putC (cs : List Cell) (i x : Int) : List Cell := markC (setC cs i ⟨x, false, false, (getC cs i).l, (getC cs i).c⟩) i
theorem Typ.put (h : Typ cs z l) (hl : l.length < z) {i : Int} (hi : i = (l.length : Int) + 1) (x : Int) : Typ (putC cs i x) z (l ++ [x]) := by
  subst hi
  have := h.2.2.2.1 ((l.length : Int) + 1) (by omega)
  unfold putC
  rw [this]
  exact h.step hl x
theorem Typ.next (h : Typ cs z l) (hl : l.length + 2 ≤ z) {i : Int} (hi : i = (l.length : Int) + 1) (x : Int) : (getC (putC cs i x) ((i + 1) % ((z + 3 : Nat) : Int))).st = false := by
  have h2 := h.put (by omega) hi x
  rw [Int.emod_eq_of_lt (by omega) (by omega)]
  exact h2.st (by simp only [List.length_append, List.length_cons, List.length_nil]; omega) (by omega)
end
theorem its_one {l : List It} {p : Int} {c : List Cell} (h : its l = [(p, c)]) {x : It} (hx : l[0]? = some x) : x.at' = p ∧ x.cs = c := by
  cases l with
  | nil => cases h
  | cons y m =>
    obtain rfl : y = x := Option.some.inj hx
    have h1 : ((y.at', y.cs) :: its m) = [(p, c)] := h
    injection h1 with h2
    exact ⟨congrArg Prod.fst h2, congrArg Prod.snd h2⟩
theorem ch_get {l : List Int} {k : Nat} {x : Cell} (h : (l.map ch)[k]? = some x) : l[k]? = some x.b := by
  rw [List.getElem?_map] at h
  cases hl : l[k]? with
  | none => rw [hl] at h; cases h
  | some y => rw [hl] at h; obtain rfl := Option.some.inj h; rfl
theorem one_len {α : Type} {l : List Int} {x : α} : (if l = [] then [] else [x]).length = min l.length 1 := by
  by_cases h : l = []
  · rw [if_pos h, h]; rfl
  · rw [if_neg h]
    have := List.length_pos_iff.2 h
    simp only [List.length_cons, List.length_nil]
    omega
end Gs
