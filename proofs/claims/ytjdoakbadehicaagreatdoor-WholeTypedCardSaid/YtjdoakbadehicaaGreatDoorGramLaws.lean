/-
  Layer 25 in plain Lean: what is written is parsed as it. No program, no condition.
-/
import Derived.Test.YtjdoakbadehicaaGreatDoorGramModel
namespace Gs
open Go
theorem cellF_8 (d : Int) (r : List Int) : cellF (8 :: d :: r) = if d < 64 then .error 21 else .ok (⟨d, true, false, 0, 0⟩, r) := rfl
theorem cellF_p {c : Int} (h : plainB c = true) (r : List Int) : cellF (c :: r) = .ok (⟨c, false, false, 0, 0⟩, r) := if_pos h
theorem itemF_17 (a b : Int) (r : List Int) : itemF (17 :: a :: b :: r) = match cellsF r with | .error e => .error e | .ok (xs, r') => .ok ((decodeM a b, xs), r') := rfl
theorem inbF_3 (a b c : Int) (r : List Int) : inbF (a :: b :: c :: r) = match itemsF r with | .error e => .error e | .ok xs => .ok ⟨a, false, decodeM b c, xs⟩ := rfl
theorem digit_bd (v : Int) : 64 ≤ digitM v ∧ digitM v ≤ 255 ∧ digitM v % 64 = v % 64 := by
  unfold digitM
  dsimp only
  split <;> omega
theorem dec_enc {p n a b : Int} (h : encodeM p n = some (a, b)) : decodeM a b = p ∧ 0 ≤ a ∧ a ≤ 255 ∧ 0 ≤ b ∧ b ≤ 255 ∧ 0 ≤ p := by
  unfold encodeM at h
  split at h
  · cases h
  · split at h
    · cases h
      unfold decodeM
      rw [if_pos (by omega)]
      omega
    · cases h
      have h1 := digit_bd (p / 64)
      have h2 := digit_bd p
      unfold decodeM
      rw [if_neg (by omega)]
      omega
theorem may_cell {c : Cell} (h : mayB c = true) : c = ⟨c.b, c.ge, false, 0, 0⟩ ∧ (c.ge = true → 64 ≤ c.b) ∧ (c.ge = false → plainB c.b = true) := by
  obtain ⟨b, ge, st, l, co⟩ := c
  cases ge <;> cases st <;> simp_all [mayB]
theorem cellF_W {c : Cell} (h : mayB c = true) (r : List Int) : cellF (cellW c ++ r) = .ok (c, r) ∧ (cellW c ++ r).head? ≠ none ∧ (cellW c ++ r).head? ≠ some 17 := by
  obtain ⟨h1, h2, h3⟩ := may_cell h
  cases hg : c.ge with
  | false =>
    have hp := h3 hg
    have hw : cellW c = [c.b] := by unfold cellW; rw [hg]; rfl
    rw [hw]
    refine ⟨?_, by simp, ?_⟩
    · rw [hg] at h1
      rw [List.cons_append, cellF_p hp, ← h1]
      rfl
    · show some c.b ≠ some 17
      intro e
      rw [Option.some.inj e] at hp
      exact absurd hp (by decide)
  | true =>
    have hw : cellW c = [8, c.b] := by unfold cellW; rw [hg]; rfl
    rw [hw]
    refine ⟨?_, by simp, by simp⟩
    rw [hg] at h1
    rw [List.cons_append, List.cons_append, cellF_8, if_neg (by have := h2 hg; omega), ← h1]
    rfl
theorem cellsF_W : ∀ {xs : List Cell} {l : List Int}, cellsW xs = .ok l → ∀ r : List Int, (r.head? = none ∨ r.head? = some 17) → cellsF (l ++ r) = .ok (xs, r)
  | [], l, h, r, hr => by
    cases h
    unfold cellsF
    rw [List.nil_append, if_pos hr]
  | c :: cs, l, h, r, hr => by
    unfold cellsW at h
    split at h
    · rename_i hm
      split at h
      · cases h
      · rename_i k hk
        cases h
        have h1 := cellF_W hm (k ++ r)
        have h2 := cellsF_W hk r hr
        rw [List.append_assoc]
        unfold cellsF
        rw [if_neg (by rintro (e | e); exact h1.2.1 e; exact h1.2.2 e)]
        split
        · rename_i e he; rw [h1.1] at he; cases he
        · rename_i x r1 he
          rw [h1.1] at he
          cases he
          rw [h2]
    · cases h
theorem cellsW_head {xs : List Cell} {l : List Int} (h : cellsW xs = .ok l) (hx : xs ≠ []) : l.head? ≠ none ∧ l.head? ≠ some 17 := by
  cases xs with
  | nil => exact absurd rfl hx
  | cons c cs =>
    unfold cellsW at h
    split at h
    · rename_i hm
      split at h
      · cases h
      · rename_i k hk; cases h; exact (cellF_W hm k).2
    · cases h
/-- Items behind the first one. -/
theorem itemsF_W {n : Int} : ∀ {xs : List (Int × List Cell)} {l : List Int}, itemsW n false xs = .ok l → itemsF l = .ok xs ∧ (l.head? = none ∨ l.head? = some 17)
  | [], l, h => by cases h; exact ⟨by unfold itemsF; rw [dif_pos rfl], .inl rfl⟩
  | x :: xs, l, h => by
    unfold itemsW at h
    split at h
    · cases h
    · rename_i m hm
      split at h
      · cases h
      · rename_i k hk
        cases h
        have ih := itemsF_W hk
        unfold itemW at hm
        rw [if_pos (.inr rfl)] at hm
        split at hm
        · cases hm
        · rename_i a b he
          split at hm
          · cases hm
          · rename_i cs hcs
            cases hm
            have hd := dec_enc he
            refine ⟨?_, .inr rfl⟩
            have hi : itemF (17 :: a :: b :: cs ++ k) = .ok (x, k) := by
              rw [show 17 :: a :: b :: cs ++ k = 17 :: a :: b :: (cs ++ k) from rfl, itemF_17, cellsF_W hcs k ih.2, hd.1]
            unfold itemsF
            rw [dif_neg (by simp)]
            split
            · rename_i e he2; rw [hi] at he2; cases he2
            · rename_i y r1 he2
              rw [hi] at he2
              cases he2
              rw [ih.1]
/-- As it comes back: without what is not sent. -/
def normI : List (Int × List Cell) → List (Int × List Cell)
  | [] => []
  | x :: xs => if x.1 = -1 ∧ x.2 = [] then xs else x :: xs
def normM (i : Inb) : Inb := if i.alone = true then ⟨i.aid, true, 0, []⟩ else ⟨i.aid, false, i.cur, normI i.items⟩
theorem itemsF_norm {n : Int} {xs : List (Int × List Cell)} {l : List Int} (h : itemsW n true xs = .ok l) : itemsF l = .ok (normI xs) := by
  cases xs with
  | nil => cases h; unfold itemsF; rw [dif_pos rfl]; rfl
  | cons x xs =>
    by_cases hx : x.1 = -1
    · unfold itemsW at h
      split at h
      · cases h
      · rename_i m hm
        split at h
        · cases h
        · rename_i k hk
          cases h
          have ih := itemsF_W hk
          unfold itemW at hm
          rw [if_neg (by rintro (e | e); exact e hx; cases e)] at hm
          by_cases hc : x.2 = []
          · rw [hc] at hm
            cases hm
            show itemsF k = .ok (if x.1 = -1 ∧ x.2 = [] then xs else x :: xs)
            rw [if_pos ⟨hx, hc⟩]
            exact ih.1
          · show itemsF (m ++ k) = .ok (if x.1 = -1 ∧ x.2 = [] then xs else x :: xs)
            rw [if_neg (fun e => hc e.2)]
            have hh := cellsW_head hm hc
            have hne : m ++ k ≠ [] := by intro e; cases m; exact hh.1 rfl; cases e
            have hhd : (m ++ k).head? = m.head? := by cases m; exact absurd rfl hh.1; rfl
            have hi : itemF (m ++ k) = .ok (x, k) := by
              unfold itemF
              rw [if_neg (by rw [hhd]; exact hh.2), cellsF_W hm k ih.2, ← hx]
            unfold itemsF
            rw [dif_neg hne]
            split
            · rename_i e he2; rw [hi] at he2; cases he2
            · rename_i y r1 he2
              rw [hi] at he2
              cases he2
              rw [ih.1]
    · have h2 : itemsW n false (x :: xs) = .ok l := by
        rw [← h]
        unfold itemsW itemW
        rw [if_pos (.inl hx), if_pos (.inl hx)]
      have := (itemsF_W h2).1
      show itemsF l = .ok (if x.1 = -1 ∧ x.2 = [] then xs else x :: xs)
      rw [if_neg (fun e => hx e.1)]
      exact this
theorem inbF_W {i : Inb} {n : Int} {l : List Int} (h : writeM i n = .ok l) : inbF l = .ok (normM i) := by
  unfold writeM at h
  unfold normM
  split at h
  · rename_i ha; cases h; rw [if_pos ha]; rfl
  · rename_i ha
    rw [if_neg ha]
    split at h
    · cases h
    · rename_i a b he
      split at h
      · cases h
      · rename_i k hk
        cases h
        have hd := dec_enc he
        rw [inbF_3, itemsF_norm hk, hd.1]
/-! What is parsed may be written. -/
theorem cellF_may {l : List Int} {c : Cell} {r : List Int} (h : cellF l = .ok (c, r)) : mayB c = true ∧ l = cellW c ++ r := by
  unfold cellF at h
  split at h
  · cases h
  · split at h
    · rename_i hp; cases h; exact ⟨by simp [mayB, hp], rfl⟩
    · split at h
      · cases h
      · rename_i h8
        split at h
        · cases h
        · split at h
          · cases h
          · rename_i hd
            cases h
            refine ⟨by simp [mayB]; omega, ?_⟩
            have : ∀ x : Int, ¬ x ≠ 8 → x = 8 := fun x h => by omega
            rw [this _ h8]; rfl
theorem cellsF_may : ∀ {l : List Int} {xs : List Cell} {r : List Int}, cellsF l = .ok (xs, r) → ∃ k, cellsW xs = .ok k ∧ l = k ++ r
  | l, xs, r, h => by
    unfold cellsF at h
    split at h
    · cases h; exact ⟨[], rfl, rfl⟩
    · split at h
      · cases h
      · rename_i x r1 h1
        split at h
        · cases h
        · rename_i xs2 r2 h2
          cases h
          have hl := cellF_len h1
          obtain ⟨k, hk, he⟩ := cellsF_may h2
          obtain ⟨hm, he1⟩ := cellF_may h1
          exact ⟨cellW x ++ k, by unfold cellsW; rw [if_pos hm, hk], by rw [he1, he, List.append_assoc]⟩
termination_by l => l.length
decreasing_by assumption
theorem place_enc {a b : Int} (ha : 0 ≤ a ∧ a ≤ 255) (hb : 0 ≤ b ∧ b ≤ 255) : ∃ c d, encodeM (decodeM a b) 16384 = some (c, d) ∧ 0 ≤ decodeM a b := by
  have : 0 ≤ decodeM a b ∧ decodeM a b < 16384 := by unfold decodeM; split <;> omega
  unfold encodeM
  rw [if_neg (by omega), if_pos (by omega)]
  exact ⟨_, _, rfl, this.1⟩
def byL (l : List Int) : Prop := ∀ x ∈ l, 0 ≤ x ∧ x ≤ 255
theorem byL.tail {a : Int} {l : List Int} (h : byL (a :: l)) : byL l := fun x hx => h x (List.mem_cons_of_mem _ hx)
theorem byL.app {k l : List Int} (h : byL (k ++ l)) : byL l := fun x hx => h x (List.mem_append_right _ hx)
theorem itemF_may {l : List Int} {x : Int × List Cell} {r : List Int} (hb : byL l) (hl : l ≠ []) (h : itemF l = .ok (x, r)) : (∀ f, (f = true ∨ l.head? = some 17) → ∃ k, itemW x f 16384 = .ok k) ∧ ¬ (x.1 = -1 ∧ x.2 = []) ∧ byL r ∧ (r = [] ∨ r.head? = some 17) := by
  unfold itemF at h
  split at h
  · rename_i h17
    split at h
    · cases h
    · rename_i p r1 h1
      split at h
      · cases h
      · rename_i xs r2 h2
        cases h
        obtain ⟨k, hk, he⟩ := cellsF_may h2
        have hc := cellsF_len h2
        cases l with
        | nil => exact absurd rfl hl
        | cons a0 l =>
          have hb1 := hb.tail
          unfold placeF at h1
          split at h1
          · rename_i a b r3 heq
            cases h1
            have heq : l = a :: b :: r1 := heq
            subst heq
            obtain ⟨c, d, hcd, hp⟩ := place_enc (hb1 a (by simp)) (hb1 b (by simp))
            have hbr : byL r1 := hb1.tail.tail
            rw [he] at hbr
            refine ⟨fun f hf => ?_, fun e => by have e1 : decodeM a b = -1 := e.1; omega, hbr.app, ?_⟩
            · unfold itemW
              dsimp only
              rw [if_pos (.inl (by omega)), hcd]
              dsimp only
              rw [hk]
              exact ⟨_, rfl⟩
            · rcases hc.2.1 with e | e
              · left; cases r; rfl; cases e
              · exact .inr e
          · cases h1
  · rename_i h17
    split at h
    · cases h
    · rename_i xs r1 h1
      cases h
      obtain ⟨k, hk, he⟩ := cellsF_may h1
      have hc := cellsF_len h1
      have hbr := hb
      rw [he] at hbr
      refine ⟨fun f hf => ?_, fun e => ?_, hbr.app, ?_⟩
      · rcases hf with rfl | hf
        · unfold itemW
          dsimp only
          rw [if_neg (by rintro (e | e); exact e rfl; cases e), hk]
          exact ⟨_, rfl⟩
        · exact absurd hf h17
      · have hr := hc.2.2.1 e.2
        rcases hc.2.1 with e2 | e2
        · rw [hr] at e2; cases l; exact hl rfl; cases e2
        · rw [hr] at e2; exact h17 e2
      · rcases hc.2.1 with e | e
        · left; cases r; rfl; cases e
        · exact .inr e
theorem itemsF_may : ∀ {l : List Int} {xs : List (Int × List Cell)}, byL l → itemsF l = .ok xs → ∀ f, (f = true ∨ l = [] ∨ l.head? = some 17) → (∃ k, itemsW 16384 f xs = .ok k) ∧ normI xs = xs
  | l, xs, hb, h, f, hf => by
    unfold itemsF at h
    split at h
    · cases h; exact ⟨⟨[], by unfold itemsW; rfl⟩, rfl⟩
    · rename_i hne
      split at h
      · cases h
      · rename_i x r h1
        split at h
        · cases h
        · rename_i xs2 h2
          cases h
          have hl := itemF_len hne h1
          obtain ⟨a, b, c, d⟩ := itemF_may hb hne h1
          obtain ⟨k, hk⟩ := a f (hf.imp_right fun h => h.resolve_left hne)
          obtain ⟨⟨m, hm⟩, _⟩ := itemsF_may c h2 false (.inr d)
          refine ⟨⟨k ++ m, by unfold itemsW; rw [hk]; dsimp only; rw [hm]⟩, ?_⟩
          show (if x.1 = -1 ∧ x.2 = [] then xs2 else x :: xs2) = _
          rw [if_neg b]
termination_by l => l.length
decreasing_by assumption
theorem inbF_may {l : List Int} {x : Inb} (hb : byL l) (h : inbF l = .ok x) : ∃ k, writeM x 16384 = .ok k ∧ inbF k = .ok x := by
  have key : (∃ k, writeM x 16384 = .ok k) ∧ normM x = x := by
    unfold inbF at h
    split at h
    · cases h
    · rename_i a r
      split at h
      · cases h; exact ⟨⟨[a], rfl⟩, rfl⟩
      · split at h
        · cases h
        · rename_i c r1 h1
          split at h
          · cases h
          · rename_i xs h2
            cases h
            unfold placeF at h1
            split at h1
            · rename_i p q _ _
              cases h1
              have hb1 := hb.tail
              obtain ⟨e, f, hef, _⟩ := place_enc (hb1 p (by simp)) (hb1 q (by simp))
              obtain ⟨⟨k, hk⟩, hn⟩ := itemsF_may hb1.tail.tail h2 true (.inl rfl)
              refine ⟨⟨a :: e :: f :: k, ?_⟩, ?_⟩
              · unfold writeM
                dsimp only
                rw [if_neg (by decide), hef]
                dsimp only
                rw [hk]
              · unfold normM
                dsimp only
                rw [if_neg (by decide), hn]
            · cases h1
  obtain ⟨⟨k, hk⟩, hn⟩ := key
  exact ⟨k, hk, by rw [inbF_W hk, hn]⟩
end Gs
namespace Gs
open Go
/-! One item more. -/
theorem itemsW_snoc {n : Int} {x : Int × List Cell} : ∀ {hs : List (Int × List Cell)} {f : Bool} {l : List Int}, (f = false ∨ hs ≠ []) → itemsW n f (hs ++ [x]) = .ok l → ∃ k m, itemsW n f hs = .ok k ∧ itemW x false n = .ok m ∧ l = k ++ m
  | [], f, l, hf, h => by
    rcases hf with rfl | hf
    · unfold itemsW at h
      simp only [List.nil_append] at h
      split at h
      · cases h
      · rename_i k hk
        cases h
        exact ⟨[], k, rfl, hk, by simp⟩
    · exact absurd rfl hf
  | y :: hs, f, l, hf, h => by
    rw [List.cons_append] at h
    unfold itemsW at h
    split at h
    · cases h
    · rename_i k hk
      split at h
      · cases h
      · rename_i m hm
        cases h
        obtain ⟨k2, m2, h1, h2, rfl⟩ := itemsW_snoc (.inl rfl) hm
        refine ⟨k ++ k2, m2, ?_, h2, by simp⟩
        unfold itemsW
        rw [hk]
        dsimp only
        rw [h1]
theorem write_snoc {a cur n : Int} {hs : List (Int × List Cell)} {x : Int × List Cell} {l : List Int} (hh : hs ≠ []) (h : writeM ⟨a, false, cur, hs ++ [x]⟩ n = .ok l) :
    ∃ p q k m, writeM ⟨a, false, cur, hs⟩ n = .ok (a :: p :: q :: k) ∧ writeM ⟨a, false, cur, [x]⟩ n = .ok (a :: p :: q :: m) ∧ l = a :: p :: q :: (k ++ m) := by
  unfold writeM at h
  dsimp only at h
  rw [if_neg (by decide)] at h
  split at h
  · cases h
  · rename_i p q he
    split at h
    · cases h
    · rename_i t ht
      cases h
      obtain ⟨k, m, h1, h2, rfl⟩ := itemsW_snoc (.inr hh) ht
      refine ⟨p, q, k, m, ?_, ?_, rfl⟩
      · unfold writeM
        dsimp only
        rw [if_neg (by decide), he]
        dsimp only
        rw [h1]
      · unfold writeM
        dsimp only
        rw [if_neg (by decide), he]
        dsimp only
        have hx : x.1 ≠ -1 := by
          intro e
          unfold itemW at h2
          rw [if_pos (.inr rfl), e] at h2
          have : encodeM (-1) n = none := by unfold encodeM; rw [if_pos (by omega)]
          rw [this] at h2
          cases h2
        have h3 : itemW x true n = .ok m := by
          rw [← h2]; unfold itemW; rw [if_pos (.inl hx), if_pos (.inl hx)]
        have h4 : itemsW n true [x] = .ok m := by
          unfold itemsW
          rw [h3]
          dsimp only
          unfold itemsW
          simp
        rw [h4]
/-! What is sent of cells. -/
/-- A cell as it may stand in what is sent. -/
def standM (c : Cell) : Cell := if c.st then ⟨c.b % 64, false, true, 0, 0⟩ else ⟨if c.ge then (if c.b < 64 then 64 else c.b) else (if plainB c.b = true then c.b else 64), c.ge, false, 0, 0⟩
def emptyB (c : Cell) : Bool := decide (c.b = 0) && !c.ge
def bytesM (c : Cell) : List Int := if c.ge then (if c.b < 64 then [8, 64] else [8, c.b]) else (if plainB c.b = true then [c.b] else [64])
theorem stand_may {c : Cell} (h : c.st = false) : mayB (standM c) = true ∧ cellW (standM c) = bytesM c := by
  obtain ⟨b, ge, st, l, co⟩ := c
  cases h
  unfold standM bytesM cellW mayB
  cases ge
  · dsimp only
    by_cases hp : plainB b = true
    · simp [hp]
    · simp [hp]; decide
  · by_cases hp : b < 64
    · simp [hp]
    · simp [hp]; omega
def fullM (cs : List Cell) (l : List Int) : List Int := ((l.map (getC cs)).filter fun c => !emptyB c).flatMap bytesM
def standL (cs : List Cell) (l : List Int) : List Cell := ((l.map (getC cs)).filter fun c => !emptyB c).map standM
theorem cellsW_stand {l : List Cell} (h : ∀ c ∈ l, c.st = false) : cellsW (l.map standM) = .ok (l.flatMap bytesM) := by
  induction l with
  | nil => rfl
  | cons c l ih =>
    have h1 := stand_may (h c (by simp))
    rw [List.map_cons, List.flatMap_cons]
    unfold cellsW
    rw [if_pos h1.1, ih (fun d hd => h d (by simp [hd])), h1.2]
theorem cellsW_full {cs : List Cell} {l : List Int} (h : ∀ i ∈ l, (getC cs i).st = false) : cellsW (standL cs l) = .ok (fullM cs l) := by
  refine cellsW_stand fun c hc => ?_
  have := (List.mem_filter.1 hc).1
  obtain ⟨i, hi, rfl⟩ := List.mem_map.1 this
  exact h i hi
end Gs
