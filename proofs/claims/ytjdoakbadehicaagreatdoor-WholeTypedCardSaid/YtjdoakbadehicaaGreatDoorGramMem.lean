/-
  What a reader is in memory; items and their cells; calls that may give up. No condition.
-/
import Derived.Test.YtjdoakbadehicaaGreatDoorGramBase
namespace Go.Sh
open Go
variable {P : Program} {R : Ending → World → Prop} {K : Value → World → Prop} {w : World}
/-- What a call gives up with: a fault of an error's number. -/
def flt (T : Nat) (x : Int) : List PanicEntry := [{ v := .iface T (.agg #[.int .i64 x]), recovered := false }]
theorem callF_pan {f : FuncId} {args : Array Value} {T : Nat} {D : Value → World → Prop} {E : Int → World → Prop}
    (hc : Calls P f args w fun e w' => (∃ v, e = .returned v ∧ D v w') ∨ ∃ x, e = .panicked (flt T x) ∧ E x w') (h : ∀ v w', D v w' → K v w') (hp : ∀ x w', E x w' → R (.panicked (flt T x)) w') : callF P f args w R K :=
  hc.mono fun e w' he => by
    rcases he with ⟨v, rfl, hd⟩ | ⟨x, rfl, hx⟩
    · exact h v w' hd
    · exact hp x w' hx
theorem panic_i {t : TypeId} {v : Value} (h : R (.panicked [{ v := .iface t v, recovered := false }]) w) : opv ((Instr.panic (.iface t v)).run P w) R K := by
  have : (Instr.panic (.iface t v)).run P w = .halt (.panic (.iface t v)) w := rfl
  rw [this]; exact h
theorem mkIface {t : TypeId} {x : Value} (h : P.concrete t = true) : (Instr.makeInterface t x).run P w = .ok (.iface t x) w := run_makeInterface w t x h
/-- A slice's end. -/
theorem sliceLo1 {t n cap : Nat} {A : Option Addr} {xs : List Int} {k k1 : IntKind} {lo : Int} (ht : slN P t = some 1) (hr : Rd w A (vals k xs)) (hl : n = xs.length) (h0 : 0 ≤ lo) (h1 : lo ≤ n) (hc : n ≤ cap)
    (h : ∀ A', Rd w A' (vals k (xs.drop lo.toNat)) → (∀ k, blkOf A' k → blkOf A k) → K (.slice A' (n - lo.toNat) (cap - lo.toNat)) w) :
    opv ((Instr.sliceAt t (.slice A n cap) (some (.int k1 lo)) none none).run P w) R K := by
  unfold slN at ht
  split at ht
  · rename_i e hu
    have hel : P.elem t = e := by simp [Program.elem, hu]
    have hu' : P.underlying t = some (.slice (P.elem t)) := by rw [hel]; exact hu
    have hr1 := run_slice_l (P := P) w t A n cap hu' k1 lo h0 h1
    rw [run_cellsN (P := P) (w := w) (by rw [hel]; exact ht)] at hr1
    have hr2 := run_sliceAt_slice (P := P) w t (.slice A n cap) (some (.int k1 lo)) none none hu'
    rw [hr1] at hr2
    refine opv_run (v := sliced A lo.toNat n cap 1) (w' := w) hr2 (h _ ?_ ?_)
    · subst hl
      by_cases he : cap = lo.toNat
      · have : lo.toNat = xs.length := by omega
        left
        simp [vals, this]
      · rw [if_neg he]
        cases A with
        | none =>
          rcases hr with hx | ⟨a, ha, _⟩
          · have := congrArg List.length hx; rw [vals_length] at this; simp at this; subst this; left; simp [vals]
          · cases ha
        | some a =>
          have := hr.drop lo.toNat
          rw [Nat.mul_one]
          simpa [vals, List.map_drop] using this
    · intro k hk
      split at hk
      · exact hk
      · obtain ⟨a, ha, rfl⟩ := hk
        cases A with
        | none => cases ha
        | some a0 => cases ha; exact ⟨a0, rfl, by rw [add_block]⟩
  · cases ht
/-- A reader: its bytes that are left; below block B. -/
def Rdr (T B : Nat) (w : World) (br : Nat) (bs : List Int) : Prop :=
  ∃ A c, w.heap[br]? = some (.cells #[.slice A bs.length c] T (0, 0)) ∧ Rd w A (vals .u8 bs) ∧ bs.length ≤ c ∧ Bs bs ∧ br < B ∧ (bs = [] ∨ ∀ k, blkOf A k → k < B ∧ k ≠ br)
theorem Rdr.lt {T B : Nat} {br : Nat} {bs : List Int} (h : Rdr T B w br bs) : br < B := by obtain ⟨A, c, _, _, _, _, h, _⟩ := h; exact h
theorem Rdr.bs {T B : Nat} {br : Nat} {bs : List Int} (h : Rdr T B w br bs) : Bs bs := by obtain ⟨A, c, _, _, _, h, _⟩ := h; exact h
theorem Rdr.upd {T B : Nat} {br : Nat} {bs : List Int} {S : Nat → Prop} {w' : World} (h : Rdr T B w br bs) (u : Upd S w w') (hS : ∀ k, k < B → ¬ S k) : Rdr T B w' br bs := by
  obtain ⟨A, c, h1, h2, h3, h4, h5, h6⟩ := h
  refine ⟨A, c, u.get h1 (hS _ h5), h2.updS u ?_, h3, h4, h5, h6⟩
  exact h6.imp (fun e => by rw [e]; rfl) (fun h k hk => hS k (h k hk).1)
theorem Rdr.upd0 {T B : Nat} {br : Nat} {bs : List Int} {w' : World} (h : Rdr T B w br bs) (u : Upd no w w') : Rdr T B w' br bs := h.upd u (fun _ _ h => h)
theorem Rdr.mono {T B B' : Nat} {br : Nat} {bs : List Int} (h : Rdr T B w br bs) (hB : B ≤ B') : Rdr T B' w br bs := by
  obtain ⟨A, c, h1, h2, h3, h4, h5, h6⟩ := h
  exact ⟨A, c, h1, h2, h3, h4, by omega, h6.imp_right fun h k hk => ⟨by have := (h k hk).1; omega, (h k hk).2⟩⟩
end Go.Sh
namespace Gs
open Go Go.Sh
/-- An item, and where its cells lie. -/
structure It where
  at' : Int
  A : Option Addr
  cp : Nat
  cs : List Cell
def ie (x : It) : List Value := [.int .i64 x.at', .slice x.A x.cs.length x.cp]
theorem encIt : Enc ie 2 := ⟨fun _ => rfl, fun a u hu => by
  simp only [ie, List.mem_cons, List.mem_nil_iff, or_false] at hu
  rcases hu with rfl | rfl <;> rfl, by decide⟩
def its (l : List It) : List (Int × List Cell) := l.map fun x => (x.at', x.cs)
/-- The items' cells. -/
def Cl (w : World) (l : List It) : Prop := ∀ x ∈ l, Rd w x.A (rows cv x.cs)
def clB (l : List It) (k : Nat) : Prop := ∃ x ∈ l, x.cs ≠ [] ∧ blkOf x.A k
def LtC (l : List It) (B : Nat) : Prop := l = [] ∨ ∀ k, clB l k → k < B
theorem LtC.ne {l : List It} {B : Nat} (h : LtC l B) {b : Nat} (hb : B ≤ b) : l = [] ∨ ∀ k, clB l k → k ≠ b := h.imp_right fun h k hk => by have := h k hk; omega
theorem LtC.mono {l : List It} {B B' : Nat} (h : LtC l B) (hb : B ≤ B') : LtC l B' := h.imp_right fun h k hk => by have := h k hk; omega
theorem cv_ne {cs : List Cell} (h : cs ≠ []) : rows cv cs ≠ [] := fun e => by
  have := congrArg List.length e
  rw [rows_len encC] at this
  cases cs
  · exact h rfl
  · simp at this
theorem Cl.lt {w : World} {l : List It} (h : Cl w l) : LtC l w.heap.size := by
  refine .inr fun k ⟨x, hx, hne, hk⟩ => ?_
  rcases (h x hx).lt with h2 | h2
  · exact absurd h2 (cv_ne hne)
  · exact h2 k hk
theorem Cl.updS {S : Nat → Prop} {w w' : World} {l : List It} (h : Cl w l) (u : Upd S w w') (hs : l = [] ∨ ∀ k, clB l k → ¬ S k) : Cl w' l := by
  intro x hx
  refine (h x hx).updS u ?_
  by_cases hc : x.cs = []
  · left; rw [hc]; rfl
  · right
    rcases hs with rfl | hs
    · cases hx
    · exact fun k hk => hs k ⟨x, hx, hc, hk⟩
theorem Cl.upd0 {w w' : World} {l : List It} (h : Cl w l) (u : Upd no w w') : Cl w' l := h.updS u (.inr fun _ _ => id)
theorem Cl.upd1 {w w' : World} {l : List It} {b : Nat} (h : Cl w l) (u : Upd (· = b) w w') (hs : l = [] ∨ ∀ k, clB l k → k ≠ b) : Cl w' l := h.updS u hs
theorem Cl.apart {w : World} {l : List It} (h : Cl w l) {b : Nat} (hb : b = w.heap.size) : l = [] ∨ ∀ k, clB l k → k ≠ b := h.lt.ne (by omega)
theorem Cl.get {w : World} {l : List It} (h : Cl w l) {k : Nat} {x : It} (hx : l[k]? = some x) : Rd w x.A (rows cv x.cs) := h x (List.mem_of_getElem? hx)
theorem Cl.nil (w : World) : Cl w [] := fun x hx => by cases hx
theorem Cl.snoc {w : World} {l : List It} {x : It} (h : Cl w l) (hx : Rd w x.A (rows cv x.cs)) : Cl w (l ++ [x]) := fun y hy => by
  rcases List.mem_append.1 hy with hy | hy
  · exact h y hy
  · rw [List.mem_singleton.1 hy]; exact hx
/-- The items' bytes. -/
def Iw (l : List It) : Prop := ∀ x ∈ l, Cws x.cs
theorem Iw.get {l : List It} (h : Iw l) {k : Nat} {x : It} (hx : l[k]? = some x) : Cws x.cs := h x (List.mem_of_getElem? hx)
theorem its_len (l : List It) : (its l).length = l.length := by simp [its]
theorem its_snoc (l : List It) (x : It) : its (l ++ [x]) = its l ++ [(x.at', x.cs)] := by simp [its]
def nextF : List Int → Except Int (Int × List Int)
  | [] => .error 20
  | c :: r => .ok (c, r)
theorem nextF_ok {bs : List Int} {c : Int} (h : bs[0]? = some c) : nextF bs = .ok (c, bs.drop 1) := by
  cases bs with
  | nil => cases h
  | cons a r => cases h; rfl
theorem nextF_bs {bs r : List Int} {c : Int} (h : nextF bs = .ok (c, r)) : bs = c :: r := by
  cases bs with
  | nil => cases h
  | cons a l => cases h; rfl
theorem nextF_no {bs : List Int} {x : Int} (h : nextF bs = .error x) : bs = [] ∧ x = 20 := by
  cases bs with
  | nil => cases h; exact ⟨rfl, rfl⟩
  | cons a l => cases h
end Gs
namespace Gs
open Go Go.Sh
theorem ap_rdc {S' : World} {v v' : Value} {l : List It} (old : l = [] ∨ ∀ k, clB l k → ¬ ownS v k) (lt : Cl S' l) (hA : ∀ k, ownS v' k → ownS v k ∨ S'.heap.size ≤ k) : l = [] ∨ ∀ k, clB l k → ¬ ownS v' k := by
  rcases old with h | h
  · exact .inl h
  · rcases lt.lt with h2 | h2
    · exact .inl h2
    · refine .inr fun k hk ho => ?_
      rcases hA k ho with h3 | h3
      · exact h k hk h3
      · have := h2 k hk; omega
theorem clB_snoc {l : List It} {x : It} {k : Nat} (h : clB (l ++ [x]) k) : clB l k ∨ (x.cs ≠ [] ∧ blkOf x.A k) := by
  obtain ⟨y, hy, h⟩ := h
  rcases List.mem_append.1 hy with hy | hy
  · exact .inl ⟨y, hy, h⟩
  · rw [List.mem_singleton.1 hy] at h; exact .inr h
/-- How long what is left is. -/
def rdL (w : World) (br : Nat) : Nat := match w.heap[br]? with | some (.cells cs _ _) => (match cs.toList with | Value.slice _ n _ :: _ => n | _ => 0) | _ => 0
theorem rdr_len {T B : Nat} {w : World} {br : Nat} {bs : List Int} (h : Rdr T B w br bs) : rdL w br = bs.length := by
  obtain ⟨A, c, h, _⟩ := h
  unfold rdL; rw [h]
theorem head_none {l : List Int} (h : ¬ (0 : Int) < (l.length : Nat)) : l.head? = none := by
  have : l = [] := List.length_eq_zero_iff.1 (by omega)
  rw [this]; rfl
theorem head_x {l : List Int} {x : Int} (hx : l[0]? = some x) : l.head? = some x := by rw [List.head?_eq_getElem?]; exact hx
theorem head_on {l : List Int} {x : Int} (hx : l[0]? = some x) (h : x ≠ 17) : ¬ (l.head? = none ∨ l.head? = some 17) := by
  rw [head_x hx]
  rintro (e | e)
  · cases e
  · exact h (Option.some.inj e)
/-- Cells that were read ahead of it. -/
def preC (acc : List Cell) : Except Int (List Cell × List Int) → Except Int (List Cell × List Int)
  | .ok (xs, r) => .ok (acc ++ xs, r)
  | .error e => .error e
theorem preC_nil (x : Except Int (List Cell × List Int)) : x = preC [] x := by cases x <;> rfl
theorem cellsF_on {l r : List Int} {x : Cell} (h : ¬ (l.head? = none ∨ l.head? = some 17)) (hx : cellF l = .ok (x, r)) : cellsF l = preC [x] (cellsF r) := by
  conv => lhs; unfold cellsF
  rw [if_neg h]
  split
  · rename_i e he; rw [hx] at he; cases he
  · rename_i y r1 he
    rw [hx] at he
    cases he
    cases cellsF r <;> rfl
theorem cellsF_err {l : List Int} {e : Int} (h : ¬ (l.head? = none ∨ l.head? = some 17)) (hx : cellF l = .error e) : cellsF l = .error e := by
  unfold cellsF
  rw [if_neg h]
  split
  · rename_i e2 he; rw [hx] at he; cases he; rfl
  · rename_i y r1 he; rw [hx] at he; cases he
theorem cellsF_end {l : List Int} (h : l.head? = none ∨ l.head? = some 17) : cellsF l = .ok ([], l) := by unfold cellsF; rw [if_pos h]
theorem preC_step {bs l r : List Int} {acc : List Cell} {x : Cell} (hi : cellsF bs = preC acc (cellsF l)) (h : ¬ (l.head? = none ∨ l.head? = some 17)) (hx : cellF l = .ok (x, r)) : cellsF bs = preC (acc ++ [x]) (cellsF r) := by
  rw [hi, cellsF_on h hx]
  cases cellsF r <;> simp [preC]
theorem preC_end {bs l : List Int} {acc : List Cell} (hi : cellsF bs = preC acc (cellsF l)) (h : l.head? = none ∨ l.head? = some 17) : cellsF bs = .ok (acc, l) := by
  rw [hi, cellsF_end h]; simp [preC]
theorem preC_err {bs l : List Int} {acc : List Cell} {e : Int} (hi : cellsF bs = preC acc (cellsF l)) (h : ¬ (l.head? = none ∨ l.head? = some 17)) (hx : cellF l = .error e) : cellsF bs = .error e := by
  rw [hi, cellsF_err h hx]; rfl
theorem cellF_8err {r : List Int} {x : Int} (h : nextF r = .error x) : cellF (8 :: r) = .error x := by
  obtain ⟨rfl, rfl⟩ := nextF_no h; rfl
theorem Cws.snoc {l : List Cell} {x : Cell} (h : Cws l) (hx : 0 ≤ x.b ∧ x.b ≤ 255) : Cws (l ++ [x]) := fun y hy => by
  rcases List.mem_append.1 hy with hy | hy
  · exact h y hy
  · rw [List.mem_singleton.1 hy]; exact hx
theorem Iw.snoc {l : List It} {x : It} (h : Iw l) (hx : Cws x.cs) : Iw (l ++ [x]) := fun y hy => by
  rcases List.mem_append.1 hy with hy | hy
  · exact h y hy
  · rw [List.mem_singleton.1 hy]; exact hx
/-- An item, when its place is read. -/
def inIt (p : Int) : Except Int (List Cell × List Int) → Except Int ((Int × List Cell) × List Int)
  | .ok (xs, r) => .ok ((p, xs), r)
  | .error e => .error e
theorem itemF_17r (r : List Int) : itemF (17 :: r) = match placeF r with | .error e => .error e | .ok (p, r) => (match cellsF r with | .error e => .error e | .ok (xs, r') => .ok ((p, xs), r')) := rfl
theorem itemF_at {l r r2 : List Int} {c p : Int} (h : nextF l = .ok (c, r)) (hc : c = 17) (hp : placeF r = .ok (p, r2)) : itemF l = inIt p (cellsF r2) := by
  rw [nextF_bs h, hc, itemF_17r, hp]
  dsimp only
  cases cellsF r2 <;> rfl
theorem itemF_perr {l r : List Int} {c e : Int} (h : nextF l = .ok (c, r)) (hc : c = 17) (hp : placeF r = .error e) : itemF l = .error e := by
  rw [nextF_bs h, hc, itemF_17r, hp]
theorem itemF_no {l : List Int} {x : Int} (hx : l[0]? = some x) (h : ¬ x = 17) : itemF l = inIt (-1) (cellsF l) := by
  unfold itemF
  rw [if_neg (by rw [head_x hx]; exact fun e => h (Option.some.inj e))]
  cases cellsF l <;> rfl
/-- Items that were read ahead of it. -/
def preI (acc : List (Int × List Cell)) : Except Int (List (Int × List Cell)) → Except Int (List (Int × List Cell))
  | .ok xs => .ok (acc ++ xs)
  | .error e => .error e
theorem itemsF_on {l r : List Int} {x : Int × List Cell} (h : l ≠ []) (hx : itemF l = .ok (x, r)) : itemsF l = preI [x] (itemsF r) := by
  conv => lhs; unfold itemsF
  rw [dif_neg h]
  split
  · rename_i e he; rw [hx] at he; cases he
  · rename_i y r1 he
    rw [hx] at he
    cases he
    cases itemsF r <;> rfl
theorem itemsF_err {l : List Int} {e : Int} (h : l ≠ []) (hx : itemF l = .error e) : itemsF l = .error e := by
  unfold itemsF
  rw [dif_neg h]
  split
  · rename_i e2 he; rw [hx] at he; cases he; rfl
  · rename_i y r1 he; rw [hx] at he; cases he
theorem preI_step {bs l r : List Int} {acc : List (Int × List Cell)} {x : Int × List Cell} (hi : itemsF bs = preI acc (itemsF l)) (h : l ≠ []) (hx : itemF l = .ok (x, r)) : itemsF bs = preI (acc ++ [x]) (itemsF r) := by
  rw [hi, itemsF_on h hx]
  cases itemsF r <;> simp [preI]
theorem preI_end {bs l : List Int} {acc : List (Int × List Cell)} (hi : itemsF bs = preI acc (itemsF l)) (h : l = []) : itemsF bs = .ok acc := by
  rw [hi, h]; unfold itemsF; rw [dif_pos rfl]; simp [preI]
theorem preI_err {bs l : List Int} {acc : List (Int × List Cell)} {e : Int} (hi : itemsF bs = preI acc (itemsF l)) (h : l ≠ []) (hx : itemF l = .error e) : itemsF bs = .error e := by
  rw [hi, itemsF_err h hx]; rfl
theorem preI_nil (x : Except Int (List (Int × List Cell))) : x = preI [] x := by cases x <;> rfl
theorem inbF_alone {bs r : List Int} {a : Int} (h : nextF bs = .ok (a, r)) (hr : r = []) : inbF bs = .ok ⟨a, true, 0, []⟩ := by
  rw [nextF_bs h, hr]; rfl
theorem inbF_perr {bs r : List Int} {a e : Int} (h : nextF bs = .ok (a, r)) (hr : r ≠ []) (hp : placeF r = .error e) : inbF bs = .error e := by
  rw [nextF_bs h]
  unfold inbF
  dsimp only
  rw [if_neg hr, hp]
theorem inbF_ok {bs r r2 : List Int} {a c : Int} {xs : List (Int × List Cell)} (h : nextF bs = .ok (a, r)) (hr : r ≠ []) (hp : placeF r = .ok (c, r2)) (hx : itemsF r2 = .ok xs) : inbF bs = .ok ⟨a, false, c, xs⟩ := by
  rw [nextF_bs h]
  unfold inbF
  dsimp only
  rw [if_neg hr, hp]
  dsimp only
  rw [hx]
theorem inbF_ierr {bs r r2 : List Int} {a c e : Int} (h : nextF bs = .ok (a, r)) (hr : r ≠ []) (hp : placeF r = .ok (c, r2)) (hx : itemsF r2 = .error e) : inbF bs = .error e := by
  rw [nextF_bs h]
  unfold inbF
  dsimp only
  rw [if_neg hr, hp]
  dsimp only
  rw [hx]
theorem inbF_0 {bs : List Int} {e : Int} (h : nextF bs = .error e) : inbF bs = .error e := by obtain ⟨rfl, rfl⟩ := nextF_no h; rfl
theorem cellF_21 {c : Int} {r : List Int} (h : plainB c = false) (h8 : c ≠ 8) : cellF (c :: r) = .error 21 := by
  unfold cellF
  dsimp only
  rw [if_neg (by rw [h]; decide), if_pos h8]
theorem nextF_head {bs r : List Int} {c x : Int} (h : nextF bs = .ok (c, r)) (hx : bs[0]? = some x) : c = x := by
  rw [nextF_bs h] at hx; exact Option.some.inj hx
theorem clB_ne {l : List It} {y : It} {b n c : Nat} (h : l = [] ∨ ∀ k, clB l k → k ≠ b) (hx : ¬ ownS (.slice y.A n c) b) : l ++ [y] = [] ∨ ∀ k, clB (l ++ [y]) k → k ≠ b := by
  refine .inr fun k hk e => ?_
  rcases clB_snoc hk with h2 | ⟨_, a, ea, ek⟩
  · rcases h with rfl | h
    · obtain ⟨x, hx, _⟩ := h2; cases hx
    · exact h k h2 e
  · exact hx (by rw [ea]; subst e; subst ek; rfl)
theorem clB_own {l : List It} {y : It} {v : Value} {n c : Nat} (h : l = [] ∨ ∀ k, clB l k → ¬ ownS v k) (hx : ∀ k, ownS v k → ¬ ownS (.slice y.A n c) k) : l ++ [y] = [] ∨ ∀ k, clB (l ++ [y]) k → ¬ ownS v k := by
  refine .inr fun k hk ho => ?_
  rcases clB_snoc hk with h2 | ⟨_, a, ea, ek⟩
  · rcases h with rfl | h
    · obtain ⟨x, hx, _⟩ := h2; cases hx
    · exact h k h2 ho
  · exact hx k ho (by rw [ea]; subst ek; rfl)
theorem clB_ge {l : List It} {y : It} {B n c : Nat} {w : World} {e size : Nat} {xs : List Value} (h : ∀ k, clB l k → B ≤ k) (ho : Own B w e size (.slice y.A n c) xs) : ∀ k, clB (l ++ [y]) k → B ≤ k := fun k hk =>
  (clB_snoc hk).elim (h k) fun ⟨_, a, ea, ek⟩ => (Own.ge ho (k := k) (by rw [ea]; subst ek; rfl)).1
theorem len_ne {α : Type} {l : List α} (h : ¬ ((l.length : Nat) : Int) = 0) : l ≠ [] := fun e => h (by rw [e]; rfl)
theorem len_pos {α : Type} {l : List α} (h : (0 : Int) < ((l.length : Nat) : Int)) : l ≠ [] := fun e => by rw [e] at h; simp at h
/-- All cells, when some are read. -/
def preB (acc : List Cell) : Except Int (List Cell) → Except Int (List Cell)
  | .ok xs => .ok (acc ++ xs)
  | .error e => .error e
theorem preB_nil (x : Except Int (List Cell)) : x = preB [] x := by cases x <;> rfl
theorem bcellsF_on {l r : List Int} {x : Cell} (h : l ≠ []) (hx : bcellF l = .ok (x, r)) : bcellsF l = preB [x] (bcellsF r) := by
  conv => lhs; unfold bcellsF
  rw [if_neg h]
  split
  · rename_i e he; rw [hx] at he; cases he
  · rename_i y r1 he
    rw [hx] at he
    cases he
    cases bcellsF r <;> rfl
theorem bcellsF_err {l : List Int} {e : Int} (h : l ≠ []) (hx : bcellF l = .error e) : bcellsF l = .error e := by
  unfold bcellsF
  rw [if_neg h]
  split
  · rename_i e2 he; rw [hx] at he; cases he; rfl
  · rename_i y r1 he; rw [hx] at he; cases he
theorem preB_step {bs l r : List Int} {acc : List Cell} {x : Cell} (hi : bcellsF bs = preB acc (bcellsF l)) (h : l ≠ []) (hx : bcellF l = .ok (x, r)) : bcellsF bs = preB (acc ++ [x]) (bcellsF r) := by
  rw [hi, bcellsF_on h hx]
  cases bcellsF r <;> simp [preB]
theorem preB_end {bs l : List Int} {acc : List Cell} (hi : bcellsF bs = preB acc (bcellsF l)) (h : l = []) : bcellsF bs = .ok acc := by
  rw [hi, h]; unfold bcellsF; rw [if_pos rfl]; simp [preB]
theorem preB_err {bs l : List Int} {acc : List Cell} {e : Int} (hi : bcellsF bs = preB acc (bcellsF l)) (h : l ≠ []) (hx : bcellF l = .error e) : bcellsF bs = .error e := by
  rw [hi, bcellsF_err h hx]; rfl
theorem bcellF_29 (r : List Int) : bcellF (29 :: r) = match r with | [] => .error 20 | d :: r' => .ok (⟨d % 64, false, true, 0, 0⟩, r') := rfl
theorem bcellF_at {l r r2 : List Int} {c d : Int} (h : nextF l = .ok (c, r)) (hc : c = 29) (h2 : nextF r = .ok (d, r2)) : bcellF l = .ok (⟨d % 64, false, true, 0, 0⟩, r2) := by
  rw [nextF_bs h, hc, nextF_bs h2]; rfl
theorem bcellF_e1 {l r : List Int} {c e : Int} (h : nextF l = .ok (c, r)) (hc : c = 29) (h2 : nextF r = .error e) : bcellF l = .error e := by
  obtain ⟨e1, e2⟩ := nextF_no h2
  rw [nextF_bs h, hc, e1, e2]; rfl
theorem bcellF_no {l : List Int} {x : Int} (hx : l[0]? = some x) (h : ¬ x = 29) : bcellF l = cellF l := by
  cases l with
  | nil => cases hx
  | cons a l =>
    cases hx
    exact if_neg h
theorem bufF_0 {bs : List Int} {e : Int} (h : nextF bs = .error e) : bufF bs = .error e := by obtain ⟨rfl, rfl⟩ := nextF_no h; rfl
theorem bufF_p {bs r : List Int} {a e : Int} (h : nextF bs = .ok (a, r)) (hp : placeF r = .error e) : bufF bs = .error e := by
  rw [nextF_bs h]; unfold bufF; dsimp only; rw [hp]
theorem bufF_b {bs r r2 : List Int} {a c e : Int} (h : nextF bs = .ok (a, r)) (hp : placeF r = .ok (c, r2)) (hx : bcellsF r2 = .error e) : bufF bs = .error e := by
  rw [nextF_bs h]; unfold bufF; dsimp only; rw [hp]; dsimp only; rw [hx]
theorem bufF_ok {bs r r2 : List Int} {a c : Int} {xs : List Cell} (h : nextF bs = .ok (a, r)) (hp : placeF r = .ok (c, r2)) (hx : bcellsF r2 = .ok xs) : bufF bs = .ok (a, c, xs) := by
  rw [nextF_bs h]; unfold bufF; dsimp only; rw [hp]; dsimp only; rw [hx]
end Gs
namespace Go.Sh
open Go
theorem opu_eqn {r : Result Unit} {K : Value → World → Prop} (h : opu r (fun _ _ => False) K) : ∃ w', r = .ok () w' ∧ K undef w' := by
  cases r with
  | ok u w' => exact ⟨w', rfl, h⟩
  | halt s w' => cases s <;> exact h.elim
/-- A store, as an equation. -/
theorem store_eq {P : Program} {w : World} {t n : Nat} {v : Value} {b : Nat} {T : TypeId} {cs : Array Value} (hn : cellsN P t = some n) (hv : v.cells.size = n) (h1 : v.cells.all (·.oneCell') = true) (hb : w.heap[b]? = some (.cells cs T (0, 0))) (hl : cs.size = n) :
    ∃ w', (Instr.storeAt t (.pointer (some ⟨b, 0, none⟩)) v).run P w = .ok () w' ∧ w'.heap[b]? = some (.cells v.cells T (0, 0)) ∧ Upd (· = b) w w' :=
  opu_eqn (K := fun _ w' => w'.heap[b]? = some (.cells v.cells T (0, 0)) ∧ Upd (· = b) w w') (store_intro (o := 0) (cs' := v.cells) hn hv h1 hb (by omega) (by
    have h2 : cs.toList.drop (0 + n) = [] := List.drop_eq_nil_of_le (by simp; omega)
    rw [h2]; simp) (fun w' a _ c => ⟨a, c⟩))
end Go.Sh
