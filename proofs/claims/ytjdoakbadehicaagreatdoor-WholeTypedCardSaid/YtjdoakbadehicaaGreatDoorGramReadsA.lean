/-
  4 texts in one: what each theorem says stands at it. No condition but the ones that each states.
-/
import Derived.Test.YtjdoakbadehicaaGreatDoorGramLaws
import Derived.Test.YtjdoakbadehicaaGreatDoorFieldAll
import Derived.Test.YtjdoakbadehicaaGreatDoorGramBase
import Derived.Test.YtjdoakbadehicaaGreatDoorGramMem2
import Derived.Test.YtjdoakbadehicaaGreatDoorGramTx
namespace Gs
open Go
def encB (p n : Int) : List Int := match encodeM p n with | some (a, b) => [a, b] | none => [0, 0]
def oddF (f : Fld) : Bool := decide (f.a % 2 = 1)
def placesA (cs : List Cell) : List Int := (List.range cs.length).map Int.ofNat
def wantM (cs : List Cell) : List (Int × List Cell) :=
  if allM cs = [] then (if standL cs (placesA cs) = [] then [] else [(-1, standL cs (placesA cs))])
  else ((allM cs).filter oddF).map fun f => ((f.s + 1) % cs.length, standL cs (placesL cs.length f))
def fieldB (cs : List Cell) (f : Fld) : List Int := 17 :: encB ((f.s + 1) % cs.length) cs.length ++ fullM cs (placesL cs.length f)
def allB (cs : List Cell) (cur aid : Int) : List Int := aid :: encB cur cs.length ++ (if allM cs = [] then fullM cs (placesA cs) else ((allM cs).filter oddF).flatMap (fieldB cs))
theorem enc_in {p : Int} {n : Nat} (h : 0 ≤ p ∧ p < n) (hn : n ≤ 4096) : encodeM p n = some (digitM (p / 64), digitM p) := by
  unfold encodeM
  rw [if_neg (by omega), if_neg (by omega)]
theorem encB_in {p : Int} {n : Nat} (h : 0 ≤ p ∧ p < n) (hn : n ≤ 4096) : encB p n = [digitM (p / 64), digitM p] := by unfold encB; rw [enc_in h hn]
/-- Within a field no attribute stands. -/
theorem inside_st {cs : List Cell} {k : Nat} {f : Fld} (hf : (allM cs)[k]? = some f) : ∀ i ∈ placesL cs.length f, (getC cs i).st = false := by
  intro i hi
  obtain ⟨⟨h0, h1⟩, hl0, hl1, he⟩ := all_in hf
  obtain ⟨j, hj⟩ := List.getElem?_of_mem hi
  have hjl := (List.getElem?_eq_some_iff.1 hj).1
  rw [places_at hjl] at hj
  have hpl := all_places hf
  have hlen : f.l = lenM cs f.s := congrArg Fld.l he
  cases hst : (getC cs i).st with
  | false => rfl
  | true =>
    exfalso
    have hi0 := places_get (show (placesL cs.length f)[j]? = some i from by rw [places_at hjl, hj])
    have h2 := bef_self hi0 hst
    have h3 := bef_in ⟨h0, h1⟩ (walk0 hf).2 (j := j + 1) (by omega)
    rw [Option.some.inj hj, h2] at h3
    have h4 := Option.some.inj hj
    rw [h3] at h4
    have hm := mod_bd (f.s + ((j + 1 : Nat) : Int)) (N := cs.length) (by omega)
    by_cases hw : f.s + ((j + 1 : Nat) : Int) < cs.length
    · rw [Int.emod_eq_of_lt (by omega) hw] at h4; omega
    · rw [← Int.sub_emod_right, Int.emod_eq_of_lt (by omega) (by omega)] at h4; omega
theorem placesA_st {cs : List Cell} (h : allM cs = []) : ∀ i ∈ placesA cs, (getC cs i).st = false := by
  intro i hi
  obtain ⟨j, hj, rfl⟩ := List.mem_map.1 hi
  cases hst : (getC cs (Int.ofNat j)).st with
  | false => rfl
  | true =>
    exfalso
    have hm : j ∈ startsN cs := starts_mem.2 ⟨List.mem_range.1 hj, hst⟩
    have : (allM cs).length = (startsN cs).length := allM_len cs
    rw [h] at this
    have h2 := List.length_pos_of_mem hm
    simp at this
    omega
theorem items_fields {cs : List Cell} (hn : cs.length ≤ 4096) : ∀ {l : List Fld}, (∀ f ∈ l, ∃ k : Nat, (allM cs)[k]? = some f) → ∀ b, itemsW cs.length b (l.map fun f => ((f.s + 1) % cs.length, standL cs (placesL cs.length f))) = .ok (l.flatMap (fieldB cs)) := by
  intro l
  induction l with
  | nil => intro _ b; rfl
  | cons f l ih =>
    intro h b
    obtain ⟨k, hk⟩ := h f (by simp)
    obtain ⟨⟨h0, h1⟩, _⟩ := all_in hk
    have hm := mod_bd (f.s + 1) (N := cs.length) (by omega)
    rw [List.map_cons, List.flatMap_cons]
    unfold itemsW itemW
    dsimp only
    rw [if_pos (.inl (by omega)), enc_in hm hn]
    dsimp only
    rw [cellsW_full (inside_st hk)]
    dsimp only
    rw [ih (fun g hg => h g (by simp [hg])) false]
    unfold fieldB
    rw [encB_in hm hn]
    rfl
theorem read_write {cs : List Cell} {cur aid : Int} (hn : cs.length ≤ 4096) (hc : 0 ≤ cur ∧ cur < cs.length) : writeM ⟨aid, false, cur, wantM cs⟩ cs.length = .ok (allB cs cur aid) ∧ normI (wantM cs) = wantM cs := by
  unfold writeM allB
  dsimp only
  rw [if_neg (by decide), enc_in hc hn, encB_in hc hn]
  dsimp only
  unfold wantM
  by_cases ha : allM cs = []
  · rw [if_pos ha, if_pos ha]
    have hs := cellsW_full (placesA_st ha)
    by_cases he : standL cs (placesA cs) = []
    · rw [if_pos he]
      rw [he] at hs
      have : fullM cs (placesA cs) = [] := by unfold cellsW at hs; exact (Except.ok.inj hs).symm
      rw [this]
      exact ⟨rfl, rfl⟩
    · rw [if_neg he]
      have hi : itemsW cs.length true [(-1, standL cs (placesA cs))] = .ok (fullM cs (placesA cs)) := by
        unfold itemsW itemW
        dsimp only
        rw [if_neg (by rintro (e | e); exact e rfl; cases e), hs]
        dsimp only
        unfold itemsW
        simp
      rw [hi]
      refine ⟨rfl, ?_⟩
      show (if (-1 : Int) = -1 ∧ standL cs (placesA cs) = [] then [] else [(-1, standL cs (placesA cs))]) = [(-1, standL cs (placesA cs))]
      rw [if_neg (fun e => he e.2)]
  · rw [if_neg ha, if_neg ha]
    have hm : ∀ f ∈ (allM cs).filter oddF, ∃ k : Nat, (allM cs)[k]? = some f := fun f hf => List.getElem?_of_mem (List.mem_filter.1 hf).1
    rw [items_fields hn hm true]
    refine ⟨rfl, ?_⟩
    cases hl : (allM cs).filter oddF with
    | nil => rfl
    | cons f l =>
      obtain ⟨k, hk⟩ := hm f (by rw [hl]; simp)
      obtain ⟨⟨h0, h1⟩, _⟩ := all_in hk
      have := mod_bd (f.s + 1) (N := cs.length) (by omega)
      rw [List.map_cons]
      show (if (f.s + 1) % (cs.length : Int) = -1 ∧ standL cs (placesL cs.length f) = [] then _ else _) = _
      rw [if_neg (by omega)]
theorem read_back {cs : List Cell} {cur aid : Int} (hn : cs.length ≤ 4096) (hc : 0 ≤ cur ∧ cur < cs.length) : inbF (allB cs cur aid) = .ok ⟨aid, false, cur, wantM cs⟩ := by
  obtain ⟨h1, h2⟩ := read_write (aid := aid) hn hc
  rw [inbF_W h1]
  unfold normM
  rw [if_neg (by simp), h2]
/-! All cells. -/
def bufcB (c : Cell) : List Int := if c.st then [29, digitM c.b] else bytesM c
def bufB (cs : List Cell) (cur aid : Int) : List Int := aid :: encB cur cs.length ++ cs.flatMap bufcB
theorem bcell_back {c : Cell} (hb : 0 ≤ c.b ∧ c.b ≤ 255) (r : List Int) : bcellF (bufcB c ++ r) = .ok (standM c, r) ∧ bufcB c ++ r ≠ [] := by
  unfold bufcB
  cases hst : c.st with
  | true =>
    have hd := digit_bd c.b
    refine ⟨?_, by simp⟩
    have hsm : standM c = ⟨c.b % 64, false, true, 0, 0⟩ := by unfold standM; rw [hst]; rfl
    rw [hsm, ← hd.2.2]
    rfl
  | false =>
    obtain ⟨h1, h2⟩ := stand_may hst
    have h3 := cellF_W h1 r
    rw [h2] at h3
    have hh : (bytesM c ++ r).head? ≠ some 29 := by
      rw [← h2]
      obtain ⟨_, _, hp⟩ := may_cell h1
      cases hg : (standM c).ge with
      | true => unfold cellW; rw [hg]; simp
      | false =>
        have hp := hp hg
        unfold cellW
        rw [hg]
        intro e
        have : (standM c).b = 29 := Option.some.inj e
        rw [this] at hp
        exact absurd hp (by decide)
    refine ⟨?_, fun e => h3.2.1 (by show (bytesM c ++ r).head? = none; rw [show bytesM c ++ r = [] from e]; rfl)⟩
    show bcellF (bytesM c ++ r) = _
    rw [← h3.1]
    cases hl : bytesM c ++ r with
    | nil => rfl
    | cons x l =>
      rw [hl] at hh
      unfold bcellF
      exact if_neg (fun e => hh (by rw [e]; rfl))
theorem bcells_back : ∀ {cs : List Cell}, Cws cs → bcellsF (cs.flatMap bufcB) = .ok (cs.map standM)
  | [], _ => by show bcellsF [] = _; unfold bcellsF; simp
  | c :: cs, h => by
    have hb := bcell_back (h c (by simp)) (cs.flatMap bufcB)
    have ih := bcells_back (cs := cs) (fun d hd => h d (by simp [hd]))
    rw [List.flatMap_cons, List.map_cons]
    unfold bcellsF
    rw [if_neg hb.2]
    split
    · rename_i e he; rw [hb.1] at he; cases he
    · rename_i x r he
      rw [hb.1] at he
      cases he
      rw [ih]
theorem buf_back {cs : List Cell} {cur aid : Int} (hw : Cws cs) (hn : cs.length ≤ 4096) (hc : 0 ≤ cur ∧ cur < cs.length) : bufF (bufB cs cur aid) = .ok (aid, cur, cs.map standM) := by
  unfold bufB
  rw [encB_in hc hn]
  have hd := dec_enc (enc_in hc hn)
  show (match bcellsF (cs.flatMap bufcB) with | .error e => (Except.error e : Except Int (Int × Int × List Cell)) | .ok xs => .ok (aid, decodeM (digitM (cur / 64)) (digitM cur), xs)) = _
  rw [bcells_back hw, hd.1]
end Gs
namespace Gs
open Go
theorem encB_P (p n : Int) : encB p n = [(encP p n).1, (encP p n).2.1] := by
  unfold encB encP
  cases h : encodeM p n with
  | none => rfl
  | some x => obtain ⟨a, b⟩ := x; rfl
theorem encB_len (p n : Int) : (encB p n).length = 2 := by rw [encB_P]; rfl
theorem bytes_g1 {c : Cell} (h : c.ge = true) (h2 : c.b < 64) : bytesM c = [8, 64] := by unfold bytesM; rw [if_pos h, if_pos h2]
theorem bytes_g2 {c : Cell} (h : c.ge = true) (h2 : ¬ c.b < 64) : bytesM c = [8, c.b] := by unfold bytesM; rw [if_pos h, if_neg h2]
theorem bytes_n1 {c : Cell} (h : c.ge = false) (h2 : ¬ plainB c.b = true) : bytesM c = [64] := by unfold bytesM; rw [if_neg (by rw [h]; decide), if_neg h2]
theorem bytes_n2 {c : Cell} (h : c.ge = false) (h2 : plainB c.b = true) : bytesM c = [c.b] := by unfold bytesM; rw [if_neg (by rw [h]; decide), if_pos h2]
theorem bytes_len (c : Cell) : (bytesM c).length ≤ 2 := by
  unfold bytesM
  repeat' split
  all_goals simp
theorem bytes_pos (c : Cell) : 1 ≤ (bytesM c).length := by
  unfold bytesM
  repeat' split
  all_goals simp
theorem empty_1 {c : Cell} (h : c.b = 0) : (!c.ge) = emptyB c := by unfold emptyB; rw [decide_eq_true h]; rfl
theorem empty_0 {c : Cell} (h : ¬ c.b = 0) : false = emptyB c := by unfold emptyB; rw [decide_eq_false h]; rfl
theorem short_1 {b : Int} (h : ¬ attP b = ⟨#[]⟩) : decide (¬ b = 125) = decide (b = 109 ∨ b = 108 ∨ b = 110 ∨ b = 107) := by
  refine decide_eq_decide.2 ⟨fun h2 => ?_, fun h2 => by omega⟩
  unfold attP at h
  repeat' split at h
  all_goals first | omega | exact absurd rfl h
theorem short_0 {b : Int} (h : ¬ ¬ attP b = ⟨#[]⟩) : false = decide (b = 109 ∨ b = 108 ∨ b = 110 ∨ b = 107) := by
  have h := Classical.not_not.1 h
  refine (decide_eq_false fun h2 => ?_).symm
  unfold attP at h
  repeat' split at h
  all_goals first | omega | exact absurd h (by decide)
theorem fullM_app (cs : List Cell) (l m : List Int) : fullM cs (l ++ m) = fullM cs l ++ fullM cs m := by unfold fullM; rw [List.map_append, List.filter_append, List.flatMap_append]
theorem standL_app (cs : List Cell) (l m : List Int) : standL cs (l ++ m) = standL cs l ++ standL cs m := by unfold standL; rw [List.map_append, List.filter_append, List.map_append]
theorem full_T {cs : List Cell} {l : List Int} {k : Nat} {x : Int} (hx : l[k]? = some x) (h : emptyB (getC cs x) = true) : fullM cs (l.take k) = fullM cs (l.take (k + 1)) := by
  rw [← take_step hx, fullM_app]
  unfold fullM; simp [h]
theorem full_F {cs : List Cell} {l : List Int} {k : Nat} {x : Int} (hx : l[k]? = some x) (h : emptyB (getC cs x) = false) : fullM cs (l.take k) ++ bytesM (getC cs x) = fullM cs (l.take (k + 1)) := by
  rw [← take_step hx, fullM_app]
  unfold fullM; simp [h]
theorem standL_T {cs : List Cell} {l : List Int} {k : Nat} {x : Int} (hx : l[k]? = some x) (h : emptyB (getC cs x) = true) : standL cs (l.take k) = standL cs (l.take (k + 1)) := by
  rw [← take_step hx, standL_app]
  unfold standL; simp [h]
theorem standL_F {cs : List Cell} {l : List Int} {k : Nat} {x : Int} (hx : l[k]? = some x) (h : emptyB (getC cs x) = false) : standL cs (l.take k) ++ [standM (getC cs x)] = standL cs (l.take (k + 1)) := by
  rw [← take_step hx, standL_app]
  unfold standL; simp [h]
theorem flatb_len {α : Type} {f : α → List Int} {b : Nat} (hf : ∀ x, (f x).length ≤ b) : ∀ l : List α, (l.flatMap f).length ≤ b * l.length
  | [] => by simp
  | x :: l => by
    rw [List.flatMap_cons, List.length_append, List.length_cons, Nat.mul_add, Nat.mul_one]
    have := flatb_len hf l
    have := hf x
    omega
theorem full_len (cs : List Cell) (l : List Int) : (fullM cs l).length ≤ 2 * l.length := by
  unfold fullM
  refine Nat.le_trans (flatb_len bytes_len _) ?_
  have := List.length_filter_le (fun c => !emptyB c) (l.map (getC cs))
  rw [List.length_map] at this
  omega
theorem standL_len (cs : List Cell) (l : List Int) : (standL cs l).length ≤ l.length := by
  unfold standL
  rw [List.length_map]
  have := List.length_filter_le (fun c => !emptyB c) (l.map (getC cs))
  rwa [List.length_map] at this
theorem placesA_len (cs : List Cell) : (placesA cs).length = cs.length := by simp [placesA]
theorem placesA_at {cs : List Cell} {k : Nat} (h : k < cs.length) : (placesA cs)[k]? = some (k : Int) := by simp [placesA, h]
theorem fullA_T {cs : List Cell} {k : Nat} (hk : k < cs.length) (h : emptyB (getC cs k) = true) : fullM cs ((placesA cs).take k) = fullM cs ((placesA cs).take (k + 1)) := full_T (placesA_at hk) h
theorem fullA_F {cs : List Cell} {k : Nat} (hk : k < cs.length) (h : emptyB (getC cs k) = false) : fullM cs ((placesA cs).take k) ++ bytesM (getC cs k) = fullM cs ((placesA cs).take (k + 1)) := full_F (placesA_at hk) h
/-- The fields that are modified among the first k. -/
def outF (cs : List Cell) (k : Nat) : List Int := (((allM cs).take k).filter oddF).flatMap (fieldB cs)
def headF (cs : List Cell) (f : Fld) : List Int := 17 :: encB ((f.s + 1) % cs.length) cs.length
theorem headF_P (cs : List Cell) (f : Fld) : headF cs f = [17] ++ [(encP ((f.s + 1) % cs.length) cs.length).1, (encP ((f.s + 1) % cs.length) cs.length).2.1] := by unfold headF; rw [encB_P]; rfl
theorem fieldB_eq (cs : List Cell) (f : Fld) : fieldB cs f = headF cs f ++ fullM cs (placesL cs.length f) := by unfold fieldB headF; rfl
theorem outF_0 (cs : List Cell) : outF cs 0 = [] := rfl
theorem outF_T {cs : List Cell} {k s : Nat} (hx : (startsN cs)[k]? = some s) (h : (atM cs s).a % 2 = 1) : outF cs k ++ (headF cs (atM cs s) ++ fullM cs (placesL cs.length (atM cs s))) = outF cs (k + 1) := by
  unfold outF
  rw [← take_step (allM_at hx), List.filter_append, List.flatMap_append]
  have : oddF (atM cs s) = true := decide_eq_true h
  simp [this, fieldB_eq]
theorem outF_F {cs : List Cell} {k s : Nat} (hx : (startsN cs)[k]? = some s) (h : ¬ (atM cs s).a % 2 = 1) : outF cs k = outF cs (k + 1) := by
  unfold outF
  rw [← take_step (allM_at hx), List.filter_append, List.flatMap_append]
  have : oddF (atM cs s) = false := decide_eq_false h
  simp [this]
theorem fieldB_len {cs : List Cell} (h : cs.length ≤ 4096) (f : Fld) : (fieldB cs f).length ≤ 8200 := by
  rw [fieldB_eq]
  unfold headF
  have h1 := full_len cs (placesL cs.length f)
  have h2 := places_le cs.length f
  simp only [List.length_append, List.length_cons, encB_len]
  omega
theorem outF_len {cs : List Cell} (h : cs.length ≤ 4096) (k : Nat) : (outF cs k).length ≤ 8200 * k := by
  unfold outF
  refine Nat.le_trans (flatb_len (fieldB_len h) _) ?_
  have h1 := List.length_filter_le oddF ((allM cs).take k)
  rw [List.length_take] at h1
  exact Nat.mul_le_mul_left _ (by omega)
theorem outF_end (cs : List Cell) : outF cs (startsN cs).length = ((allM cs).filter oddF).flatMap (fieldB cs) := by
  unfold outF
  rw [List.take_of_length_le (by rw [allM_len]; exact Nat.le_refl _)]
theorem fmt_T {cs : List Cell} (hp : 0 < cs.length) (h : 0 ≤ lookM cs 0 1) : allM cs ≠ [] := by
  obtain ⟨k, _, h1, h2⟩ := look_some (cs := cs) (at' := 0) (step := 1) ⟨by omega, by omega⟩ (by omega)
  intro e
  have hb := mod_bd (0 + (k : Int) * 1) hp
  rw [h1] at h2
  have hm : (0 + (k : Int) * 1) % cs.length ∈ startsL cs := startsL_mem.2 ⟨hb, h2.1⟩
  have : allM cs = (startsL cs).map (atM cs) := rfl
  rw [this] at e
  rw [List.map_eq_nil_iff.1 e] at hm
  cases hm
theorem fmt_F {cs : List Cell} (hp : 0 < cs.length) (h : ¬ 0 ≤ lookM cs 0 1) : allM cs = [] := by
  have := look_none_all (cs := cs) (at' := 0) ⟨by omega, by omega⟩ (by omega)
  unfold allM
  rw [List.map_eq_nil_iff]
  cases hs : startsL cs with
  | nil => rfl
  | cons s l =>
    exfalso
    obtain ⟨h1, h2⟩ := startsL_mem.1 (show s ∈ startsL cs by rw [hs]; simp)
    rw [this s h1] at h2
    cases h2
theorem allB_T {cs : List Cell} {cur aid : Int} (h : allM cs ≠ []) : [aid] ++ [(encP cur cs.length).1, (encP cur cs.length).2.1] ++ outF cs (startsN cs).length = allB cs cur aid := by
  unfold allB
  rw [if_neg h, encB_P, outF_end]; rfl
theorem allB_F {cs : List Cell} {cur aid : Int} (h : allM cs = []) : [aid] ++ [(encP cur cs.length).1, (encP cur cs.length).2.1] ++ fullM cs (placesA cs) = allB cs cur aid := by
  unfold allB
  rw [if_pos h, encB_P]; rfl
theorem outF_lenE {cs : List Cell} (h : cs.length ≤ 4096) : (outF cs (startsN cs).length).length ≤ 33587200 := by
  have h1 := outF_len h (startsN cs).length
  have h2 := starts_len_le cs
  have : 8200 * (startsN cs).length ≤ 8200 * 4096 := Nat.mul_le_mul_left _ (by omega)
  omega
theorem allB_len {cs : List Cell} {cur aid : Int} (h : cs.length ≤ 4096) : (allB cs cur aid).length ≤ 33587203 := by
  by_cases ha : allM cs = []
  · rw [← allB_F ha]
    have := full_len cs (placesA cs)
    rw [placesA_len] at this
    simp only [List.length_append, List.length_cons, List.length_nil]
    omega
  · rw [← allB_T ha]
    have := outF_lenE h
    simp only [List.length_append, List.length_cons, List.length_nil]
    omega
def readB (cs : List Cell) (cur aid : Int) : List Int := if aid = 109 ∨ aid = 108 ∨ aid = 110 ∨ aid = 107 then [aid] else allB cs cur aid
theorem readB_T {cs : List Cell} {cur aid : Int} (h : aid = 109 ∨ aid = 108 ∨ aid = 110 ∨ aid = 107) : readB cs cur aid = [aid] := if_pos h
theorem readB_F {cs : List Cell} {cur aid : Int} (h : ¬ (aid = 109 ∨ aid = 108 ∨ aid = 110 ∨ aid = 107)) : readB cs cur aid = allB cs cur aid := if_neg h
/-! All cells. -/
def bufK (cs : List Cell) (cur aid : Int) (k : Nat) : List Int := [aid] ++ [(encP cur cs.length).1, (encP cur cs.length).2.1] ++ (cs.take k).flatMap bufcB
theorem bufK_end (cs : List Cell) (cur aid : Int) : bufK cs cur aid cs.length = bufB cs cur aid := by
  unfold bufK bufB
  rw [List.take_length, encB_P]; rfl
theorem getC_some {cs : List Cell} {k : Nat} (h : k < cs.length) : cs[k]? = some (getC cs k) := getC_at h
theorem bufK_T {cs : List Cell} {cur aid : Int} {k : Nat} (hk : k < cs.length) (h : (getC cs k).st = true) : bufK cs cur aid k ++ [29, digitM (getC cs k).b] = bufK cs cur aid (k + 1) := by
  unfold bufK
  rw [← take_step (getC_some hk), List.flatMap_append]
  simp [bufcB, h]
theorem bufK_F {cs : List Cell} {cur aid : Int} {k : Nat} (hk : k < cs.length) (h : (getC cs k).st = false) : bufK cs cur aid k ++ bytesM (getC cs k) = bufK cs cur aid (k + 1) := by
  unfold bufK
  rw [← take_step (getC_some hk), List.flatMap_append]
  simp [bufcB, h]
theorem bufc_len (c : Cell) : (bufcB c).length ≤ 2 := by
  unfold bufcB; split
  · simp
  · exact bytes_len c
theorem bufK_len (cs : List Cell) (cur aid : Int) (k : Nat) : (bufK cs cur aid k).length ≤ 3 + 2 * k := by
  unfold bufK
  have h := flatb_len bufc_len (cs.take k)
  rw [List.length_take] at h
  simp only [List.length_append, List.length_cons, List.length_nil]
  have : 2 * min k cs.length ≤ 2 * k := Nat.mul_le_mul_left _ (by omega)
  omega
/-! A cell as it may stand. -/
theorem stand_T {c : Cell} (h : c.st = true) : (⟨c.b % 64, false, true, 0, 0⟩ : Cell) = standM c := by unfold standM; rw [if_pos h]
theorem stand_F {c : Cell} {x : Int} (h : c.st = false) (hx : (bytesM c)[((((bytesM c).length : Nat) : Int) - 1).toNat]? = some x) : (⟨x, c.ge, false, 0, 0⟩ : Cell) = standM c := by
  unfold standM
  rw [if_neg (by rw [h]; decide)]
  unfold bytesM at hx
  congr 1
  split at hx
  · rename_i hg
    rw [if_pos hg]
    split at hx
    · rename_i h2; rw [if_pos h2]; exact (Option.some.inj hx).symm
    · rename_i h2; rw [if_neg h2]; exact (Option.some.inj hx).symm
  · rename_i hg
    rw [if_neg hg]
    split at hx
    · rename_i h2; rw [if_pos h2]; exact (Option.some.inj hx).symm
    · rename_i h2; rw [if_neg h2]; exact (Option.some.inj hx).symm
end Gs
namespace Go.Sh
open Go
/-- A whole array, as a slice. -/
theorem sliceArr {P : Program} {w : World} {t n m b : Nat} (hn : (match P.underlying t with | some (.array n e) => (cellsN P e).map (n, ·) | _ => none) = some (n, m)) :
    (Instr.sliceAt t (.pointer (some ⟨b, 0, none⟩)) none none none).run P w = .ok (.slice (some ⟨b, 0, none⟩) n n) w := by
  split at hn
  · rename_i n' e hu
    cases hc : cellsN P e with
    | none => rw [hc] at hn; cases hn
    | some s =>
      rw [hc] at hn
      obtain ⟨rfl, rfl⟩ : n' = n ∧ s = m := by simpa using hn
      have hl : P.arrayLen t = n' := by simp [Program.arrayLen, hu]
      have he : P.elem t = e := by simp [Program.elem, hu]
      have hu' : P.underlying t = some (.array (P.arrayLen t) (P.elem t)) := by rw [hl, he]; exact hu
      rw [run_sliceAt_array_all w t ⟨b, 0, none⟩ hu', run_cellsN (P := P) (w := w) (by rw [he]; exact hc)]
      simp only [Result.andThen, slicedAt, hl, Nat.zero_mul, Nat.sub_zero]
      by_cases h0 : n' = 0
      · subst h0; rfl
      · rw [if_neg h0]
        have : (⟨b, 0, none⟩ : Addr).add 0 = ⟨b, 0, none⟩ := by unfold Addr.add; split <;> simp_all
        rw [this]
  · cases hn
end Go.Sh
namespace Gs
open Go
theorem places_mem {N : Nat} {f : Fld} {i : Int} (h : i ∈ placesL N f) : 0 ≤ i ∧ i < N := by
  obtain ⟨j, hj⟩ := List.getElem?_of_mem h
  exact places_get hj
theorem placesA_mem {cs : List Cell} {i : Int} (h : i ∈ placesA cs) : 0 ≤ i ∧ i < cs.length := by
  obtain ⟨j, hj, rfl⟩ := List.mem_map.1 h
  have := List.mem_range.1 hj
  exact ⟨Int.natCast_nonneg _, by show (j : Int) < _; omega⟩
def wantF (cs : List Cell) (k : Nat) : List (Int × List Cell) := (((allM cs).take k).filter oddF).map fun f => ((f.s + 1) % cs.length, standL cs (placesL cs.length f))
theorem wantF_T {cs : List Cell} {k : Nat} {x : Fld} (hx : (allM cs)[k]? = some x) (h : x.a % 2 = 1) : wantF cs k ++ [((x.s + 1) % cs.length, standL cs (placesL cs.length x))] = wantF cs (k + 1) := by
  unfold wantF
  rw [← take_step hx, List.filter_append, List.map_append]
  have : oddF x = true := decide_eq_true h
  simp [this]
theorem wantF_F {cs : List Cell} {k : Nat} {x : Fld} (hx : (allM cs)[k]? = some x) (h : ¬ x.a % 2 = 1) : wantF cs k = wantF cs (k + 1) := by
  unfold wantF
  rw [← take_step hx, List.filter_append, List.map_append]
  have : oddF x = false := decide_eq_false h
  simp [this]
theorem want_nil {cs : List Cell} {l : List It} {k : Nat} (ha : allM cs = []) (hw : its l = wantF cs k) : l = [] := by
  have : wantF cs k = [] := by unfold wantF; rw [ha]; simp
  rw [this] at hw
  exact List.map_eq_nil_iff.1 hw
theorem want_1 {cs : List Cell} {l : List It} {k : Nat} {A : Option Addr} {c : Nat} (ha : ((allM cs).length : Int) = 0) (hw : its l = wantF cs k) (hp : (0 : Int) < ((standL cs (placesA cs)).length : Nat)) : its (l ++ [It.mk (-1) A c (standL cs (placesA cs))]) = wantM cs := by
  have ha : allM cs = [] := List.length_eq_zero_iff.1 (by omega)
  rw [want_nil ha hw]
  unfold wantM
  rw [if_pos ha, if_neg (fun e => by rw [e] at hp; simp at hp)]
  rfl
theorem want_0 {cs : List Cell} {l : List It} {k : Nat} (ha : ((allM cs).length : Int) = 0) (hw : its l = wantF cs k) (hp : ¬ (0 : Int) < ((standL cs (placesA cs)).length : Nat)) : its l = wantM cs := by
  have ha : allM cs = [] := List.length_eq_zero_iff.1 (by omega)
  rw [want_nil ha hw]
  unfold wantM
  rw [if_pos ha, if_pos (List.length_eq_zero_iff.1 (by omega))]
  rfl
theorem want_n {cs : List Cell} {l : List It} (ha : ¬ ((allM cs).length : Int) = 0) (hw : its l = wantF cs (allM cs).length) : its l = wantM cs := by
  rw [hw]
  unfold wantM wantF
  rw [if_neg (fun e => ha (by rw [e]; rfl)), List.take_of_length_le (Nat.le_refl _)]
theorem allM_a {cs : List Cell} {k : Nat} {x : Fld} (h : Cws cs) (hx : (allM cs)[k]? = some x) : 0 ≤ x.a ∧ x.a ≤ 255 := by
  obtain ⟨s, _, rfl⟩ := allM_get hx
  exact at_a h s
end Gs
namespace Go.Sh
open Go
theorem callY_ofc {P : Program} {R : Ending → World → Prop} {K : Value → World → Prop} {w : World} {g : FuncId} {first cap args args' : Array Value} (hb : ((P.funcs[g]?).any fun fn => fn.body.isSome && !(fn.name == "runtime.NumGoroutine")) = true) (he : first ++ args ++ cap = args') (h : callF P g args' w R K) :
    callY P (.func (.func g) first cap) args w R K := by
  subst he
  exact ⟨hb, h⟩
end Go.Sh
namespace Gs
open Go Go.Sh
def shortP (x : Int) : Prop := x = 109 ∨ x = 108 ∨ x = 110 ∨ x = 107
def readQ (cs : List Cell) (cur x : Int) : Inb := if x = 109 ∨ x = 108 ∨ x = 110 ∨ x = 107 then ⟨x, true, 0, []⟩ else ⟨x, false, cur, wantM cs⟩
theorem readB_inb {cs : List Cell} {cur x : Int} (hn : cs.length ≤ 4096) (hc : 0 ≤ cur ∧ cur < cs.length) : inbF (readB cs cur x) = .ok (readQ cs cur x) := by
  unfold readB readQ
  by_cases h : x = 109 ∨ x = 108 ∨ x = 110 ∨ x = 107
  · rw [if_pos h, if_pos h]; rfl
  · rw [if_neg h, if_neg h]; exact read_back hn hc
theorem readQ_aid (cs : List Cell) (cur x : Int) : (readQ cs cur x).aid = x := by unfold readQ; split <;> rfl
theorem readQ_al (cs : List Cell) (cur x : Int) : (readQ cs cur x).alone = decide (x = 109 ∨ x = 108 ∨ x = 110 ∨ x = 107) := by
  unfold readQ; split
  · rename_i h; exact (decide_eq_true h).symm
  · rename_i h; exact (decide_eq_false h).symm
theorem readQ_F {cs : List Cell} {cur x : Int} (h : (readQ cs cur x).alone = false) : (readQ cs cur x).cur = cur ∧ (readQ cs cur x).items = wantM cs := by
  unfold readQ at h ⊢
  split at h
  · cases h
  · rename_i h2; rw [if_neg h2]; exact ⟨rfl, rfl⟩
theorem enc_bs (p n : Int) : Bs [(encP p n).1, (encP p n).2.1] := by
  have := encP_bd p n
  intro x hx
  simp at hx
  omega
theorem bytes_bs {c : Cell} (h : 0 ≤ c.b ∧ c.b ≤ 255) : Bs (bytesM c) := by
  unfold bytesM
  intro x hx
  repeat' split at hx
  all_goals (simp at hx; omega)
theorem bs_app {a b : List Int} (ha : Bs a) (hb : Bs b) : Bs (a ++ b) := fun x hx => (List.mem_append.1 hx).elim (ha x) (hb x)
theorem bs_flat {α : Type} {f : α → List Int} {l : List α} (h : ∀ x ∈ l, Bs (f x)) : Bs (l.flatMap f) := fun y hy => by
  obtain ⟨x, hx, hy⟩ := List.mem_flatMap.1 hy
  exact h x hx y hy
theorem full_bs {cs : List Cell} (hw : Cws cs) (l : List Int) : Bs (fullM cs l) := bs_flat fun x hx => by
  have := (List.mem_filter.1 hx).1
  obtain ⟨i, _, rfl⟩ := List.mem_map.1 this
  exact bytes_bs (getC_w hw i)
theorem bs_1 {x : Int} (h : 0 ≤ x ∧ x ≤ 255) : Bs [x] := fun y hy => by rw [List.mem_singleton.1 hy]; exact h
theorem fieldB_bs {cs : List Cell} (hw : Cws cs) (f : Fld) : Bs (fieldB cs f) := by
  rw [fieldB_eq, headF_P]
  exact bs_app (bs_app (bs_1 (by decide)) (enc_bs _ _)) (full_bs hw _)
theorem readB_bs {cs : List Cell} {cur x : Int} (hw : Cws cs) (hx : 0 ≤ x ∧ x ≤ 255) : Bs (readB cs cur x) := by
  unfold readB
  split
  · exact bs_1 hx
  · by_cases ha : allM cs = []
    · rw [← allB_F ha]; exact bs_app (bs_app (bs_1 hx) (enc_bs _ _)) (full_bs hw _)
    · rw [← allB_T ha]; exact bs_app (bs_app (bs_1 hx) (enc_bs _ _)) (bs_flat fun f _ => fieldB_bs hw f)
theorem bufB_bs {cs : List Cell} {cur x : Int} (hw : Cws cs) (hx : 0 ≤ x ∧ x ≤ 255) : Bs (bufB cs cur x) := by
  rw [← bufK_end]
  unfold bufK
  refine bs_app (bs_app (bs_1 hx) (enc_bs _ _)) (bs_flat fun c hc => ?_)
  have hb := hw c (List.mem_of_mem_take hc)
  unfold bufcB
  split
  · have hd := digit_bd c.b
    intro y hy
    simp at hy
    omega
  · exact bytes_bs hb
theorem fieldB_len2 (cs : List Cell) (f : Fld) : (fieldB cs f).length ≤ 3 + 2 * cs.length := by
  rw [fieldB_eq]
  unfold headF
  have h1 := full_len cs (placesL cs.length f)
  have h2 := places_le cs.length f
  simp only [List.length_append, List.length_cons, encB_len]
  omega
theorem readB_len {cs : List Cell} {cur x : Int} (h : cs.length ≤ 120) : (readB cs cur x).length ≤ 40000 := by
  unfold readB
  split
  · simp
  · by_cases ha : allM cs = []
    · rw [← allB_F ha]
      have := full_len cs (placesA cs)
      rw [placesA_len] at this
      simp only [List.length_append, List.length_cons, List.length_nil]
      omega
    · rw [← allB_T ha, outF_end]
      have h1 := flatb_len (fieldB_len2 cs) ((allM cs).filter oddF)
      have h2 := List.length_filter_le oddF (allM cs)
      have h3 := allM_len cs
      have h4 := starts_len_le cs
      have h5 : (3 + 2 * cs.length) * ((allM cs).filter oddF).length ≤ 243 * 120 := Nat.mul_le_mul (by omega) (by omega)
      simp only [List.length_append, List.length_cons, List.length_nil]
      omega
theorem bufB_len {cs : List Cell} {cur x : Int} (h : cs.length ≤ 120) : (bufB cs cur x).length ≤ 40000 := by
  rw [← bufK_end]
  have := bufK_len cs cur x cs.length
  omega
theorem want_bd {cs : List Cell} {y : Int × List Cell} (h : y ∈ wantM cs) : y.2.length ≤ cs.length := by
  unfold wantM at h
  split at h
  · split at h
    · cases h
    · rw [List.mem_singleton.1 h]
      have := standL_len cs (placesA cs)
      rwa [placesA_len] at this
  · obtain ⟨f, _, rfl⟩ := List.mem_map.1 h
    have h1 := standL_len cs (placesL cs.length f)
    have h2 := places_le cs.length f
    show (standL cs (placesL cs.length f)).length ≤ _
    omega
theorem want_len (cs : List Cell) : (wantM cs).length ≤ cs.length + 1 := by
  unfold wantM
  split
  · split <;> simp
  · rw [List.length_map]
    have h2 := List.length_filter_le oddF (allM cs)
    have h3 := allM_len cs
    have h4 := starts_len_le cs
    omega
theorem stands_get {cs : List Cell} {k : Nat} {x y : Cell} (hx : (cs.map standM)[k]? = some x) (hy : cs[k]? = some y) : x = standM y := by
  rw [List.getElem?_map, hy] at hx
  exact (Option.some.inj hx).symm
end Gs
