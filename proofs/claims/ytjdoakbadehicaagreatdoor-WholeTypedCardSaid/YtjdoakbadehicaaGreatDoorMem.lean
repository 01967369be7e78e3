/-
  Slices that are read, and rows that a call owns, for the rules of the shallow forms. No condition.
-/
import Derived.Test.YtjdoakbadehicaaGreatDoorShRules
import Derived.Lib.OthersKept
import Derived.MapKept
import Derived.Laws.BytesString
import Derived.Laws.AppendOwn
namespace Go.Sh
open Go
variable {P : Program} {R : Ending → World → Prop} {K : Value → World → Prop} {w : World}

/-- The slice's elements lie in memory: these cells. -/
def Rd (w : World) (A : Option Addr) (xs : List Value) : Prop :=
  xs = [] ∨ ∃ a, A = some a ∧ ∀ j, j < xs.length → w.cell? (a.add j) = xs[j]?
def blkOf (A : Option Addr) : Nat → Prop := fun k => ∃ a, A = some a ∧ a.block = k
theorem add_block (a : Addr) (n : Nat) : (a.add n).block = a.block := by unfold Addr.add; split <;> rfl
theorem add_add (a : Addr) (m n : Nat) : (a.add m).add n = a.add (m + n) := by
  unfold Addr.add
  by_cases h1 : m = 0
  · subst h1; simp
  · by_cases h2 : n = 0
    · subst h2; simp [h1]
    · have : m + n ≠ 0 := by omega
      simp [h1, h2]
      omega
theorem Rd.nil (w : World) (A : Option Addr) : Rd w A [] := .inl rfl
theorem Rd.upd {S : Nat → Prop} {w w' : World} {A : Option Addr} {xs : List Value} (h : Rd w A xs) (u : Upd S w w') (hs : ∀ k, blkOf A k → ¬ S k) : Rd w' A xs := by
  rcases h with h | ⟨a, rfl, r⟩
  · exact .inl h
  · refine .inr ⟨a, rfl, fun j hj => ?_⟩
    have h1 := r j hj
    rw [List.getElem?_eq_getElem hj] at h1 ⊢
    exact u.cell h1 (by rw [add_block]; exact hs _ ⟨_, rfl, rfl⟩)
theorem Rd.upd0 {w w' : World} {A : Option Addr} {xs : List Value} (h : Rd w A xs) (u : Upd no w w') : Rd w' A xs := h.upd u (fun _ _ => id)
/-- Below block B. -/
def LtA (A : Option Addr) (xs : List Value) (B : Nat) : Prop := xs = [] ∨ ∀ k, blkOf A k → k < B
theorem Rd.lt {w : World} {A : Option Addr} {xs : List Value} (h : Rd w A xs) : LtA A xs w.heap.size := by
  rcases h with h | ⟨a, rfl, r⟩
  · exact .inl h
  · by_cases hx : xs = []
    · exact .inl hx
    · refine .inr fun k hk => ?_
      obtain ⟨a', ha, rfl⟩ := hk
      cases ha
      have hl : 0 < xs.length := List.length_pos_iff.2 hx
      have h1 := r 0 hl
      rw [List.getElem?_eq_getElem hl] at h1
      have := World.block_lt_of_cell? w _ h1
      rw [add_block] at this
      exact this
theorem LtA.ne {A : Option Addr} {xs : List Value} {B : Nat} (h : LtA A xs B) {b : Nat} (hb : B ≤ b) : xs = [] ∨ ∀ k, blkOf A k → k ≠ b := h.imp_right fun h k hk => by have := h k hk; omega
theorem LtA.mono {A : Option Addr} {xs : List Value} {B B' : Nat} (h : LtA A xs B) (hb : B ≤ B') : LtA A xs B' := h.imp_right fun h k hk => by have := h k hk; omega
theorem Rd.apart {w : World} {A : Option Addr} {xs : List Value} (h : Rd w A xs) {b : Nat} (hb : b = w.heap.size) : xs = [] ∨ ∀ k, blkOf A k → k ≠ b := h.lt.ne (by omega)
theorem Rd.updS {S : Nat → Prop} {w w' : World} {A : Option Addr} {xs : List Value} (h : Rd w A xs) (u : Upd S w w') (hs : xs = [] ∨ ∀ k, blkOf A k → ¬ S k) : Rd w' A xs := by
  rcases hs with rfl | hs
  · exact .inl rfl
  · exact h.upd u hs
theorem Rd.upd1 {w w' : World} {A : Option Addr} {xs : List Value} {b : Nat} (h : Rd w A xs) (u : Upd (· = b) w w') (hs : xs = [] ∨ ∀ k, blkOf A k → k ≠ b) : Rd w' A xs := h.updS u hs
/-- Below B nothing has turned. -/
theorem Rd.fr {B : Nat} {w w' : World} {A : Option Addr} {xs : List Value} (h : Rd w A xs) (u : Fr no B w w') (hs : LtA A xs B) : Rd w' A xs := by
  rcases h with h | ⟨a, rfl, r⟩
  · exact .inl h
  · rcases hs with rfl | hs
    · exact .inl rfl
    · refine .inr ⟨a, rfl, fun j hj => ?_⟩
      have h1 := r j hj
      rw [World.cell?_of_block (u.block _ (by rw [add_block]; exact hs _ ⟨_, rfl, rfl⟩) id)]
      exact h1
theorem at_add (b o n : Nat) : (⟨b, o, none⟩ : Addr).add n = ⟨b, o + n, none⟩ := by unfold Addr.add; split <;> simp_all
theorem Rd.of_block {w : World} {g : Nat} {T : TypeId} {fr : Nat × Nat} {cs : Array Value} (hg : w.heap[g]? = some (.cells cs T fr)) : Rd w (some ⟨g, 0, none⟩) cs.toList :=
  .inr ⟨_, rfl, fun j hj => by rw [at_add, cell_of hg]; simp⟩
theorem Rd.of_blockL {w : World} {g : Nat} {T : TypeId} {fr : Nat × Nat} {xs : List Value} (hg : w.heap[g]? = some (.cells xs.toArray T fr)) : Rd w (some ⟨g, 0, none⟩) xs := Rd.of_block hg
theorem Rd.take {w : World} {A : Option Addr} {xs : List Value} (h : Rd w A xs) (n : Nat) : Rd w A (xs.take n) := by
  rcases h with rfl | ⟨a, rfl, r⟩
  · left; simp
  · refine .inr ⟨a, rfl, fun j hj => ?_⟩
    simp only [List.length_take] at hj
    rw [r j (by omega), List.getElem?_take, if_pos (by omega)]
theorem index_sl {t n len cap : Nat} {a : Addr} {k : IntKind} {i : Int} (hn : slN P t = some n) (h0 : 0 ≤ i) (h1 : i < len) :
    (Instr.indexAt t (.slice (some a) len cap) (.int k i)).run P w = .ok (.pointer (some (a.add (i.toNat * n)))) w := by
  unfold slN at hn
  split at hn
  · rename_i e hu
    unfold cellsN at hn
    cases hi : P.info? e with
    | none => simp [hi] at hn
    | some inf =>
      simp only [hi, Option.map_some, Option.some.injEq] at hn
      simp [Instr.indexAt, asIntOf, Sem.run_bind, Result.andThen, run_underlying hu, h0, h1, sizeOf, typeInfo, hi, hn]
  · cases hn
theorem load_aggA {t n : Nat} {a : Addr} {cs : Array Value} (hn : aggN P t = some n) (hl : cs.size = n) (hc : ∀ j, j < n → w.cell? (a.add j) = cs[j]?) :
    (Instr.loadAt t (.pointer (some a))).run P w = .ok (.agg cs) w := by
  unfold aggN at hn
  split at hn
  · rename_i d hu
    split at hn
    · rename_i hd
      unfold cellsN at hn
      cases hi : P.info? t with
      | none => simp [hi] at hn
      | some i =>
        simp only [hi, Option.map_some, Option.some.injEq] at hn
        have hcells : ∀ j, j < n → w.cell? (a.add j) = some (cs.getD j undef) := fun j hj => by
          rw [hc j hj]
          have : j < cs.size := by omega
          simp [Array.getD, this]
        have hlc := run_loadCells (P := P) w a n (fun j => cs.getD j undef) hcells
        have hagg : ((List.range n).map fun j => cs.getD j undef).toArray = cs := by
          apply Array.ext
          · simp; omega
          · intro j h1 h2
            simp [Array.getD, h2]
        rw [hagg] at hlc
        simp only [Instr.loadAt, Instr.sureAddr, loadVar, isAgg, sizeOf, typeInfo, Sem.run_bind, Sem.run_pure, Result.andThen, run_underlying hu, run_program, hi, hn]
        cases d <;> simp [aggD] at hd <;> simp [hi, hlc, Result.andThen, hn]
    · cases hn
  · cases hn
/-- An element of one cell, read. -/
theorem idx_load1 {t T len cap : Nat} {k : IntKind} {i : Int} {A : Option Addr} {xs : List Value} {v : Value} (hn : slN P t = some 1) (hT : isOne P T = true) (hr : Rd w A xs) (hl : len = xs.length) (h0 : 0 ≤ i) (h1 : i < len) (hv : xs[i.toNat]? = some v)
    (h : K v w) : opv ((Instr.indexAt t (.slice A len cap) (.int k i)).run P w) R fun a w => opv ((Instr.loadAt T a).run P w) R K := by
  subst hl
  rcases hr with hr | ⟨a, rfl, hc⟩
  · subst hr; simp at h1; omega
  · refine opv_run (index_sl (n := 1) hn h0 h1) ?_
    refine opv_run (load_cell hT ?_) h
    rw [Nat.mul_one, hc _ (by omega)]; exact hv
/-- An element of several cells, read. -/
theorem idx_loadA {t T m len cap : Nat} {k : IntKind} {i : Int} {A : Option Addr} {xs cs' : List Value} (hn : slN P t = some m) (hT : aggN P T = some m) (hr : Rd w A xs) (hm : 0 < m) (hl : len * m = xs.length) (h0 : 0 ≤ i) (h1 : i < len)
    (hv : (xs.drop (i.toNat * m)).take m = cs')
    (h : K (.agg cs'.toArray) w) : opv ((Instr.indexAt t (.slice A len cap) (.int k i)).run P w) R fun a w => opv ((Instr.loadAt T a).run P w) R K := by
  have hi : i.toNat < len := by omega
  have him : i.toNat * m + m ≤ xs.length := by
    rw [← hl]
    have : (i.toNat + 1) * m ≤ len * m := Nat.mul_le_mul_right m hi
    rw [Nat.add_mul, Nat.one_mul] at this
    exact this
  rcases hr with hr | ⟨a, rfl, hc⟩
  · subst hr; simp at him; omega
  · refine opv_run (index_sl (n := m) hn h0 h1) ?_
    subst hv
    refine opv_run (load_aggA (n := m) hT (by simp; omega) ?_) h
    intro j hj
    rw [add_add, hc _ (by omega)]
    simp [List.getElem?_take, hj]

/-- From block B on. -/
def GeA (A : Option Addr) (xs : List Value) (B : Nat) : Prop := xs = [] ∨ ∀ k, blkOf A k → B ≤ k
theorem GeA.ne {A : Option Addr} {xs : List Value} {B b : Nat} (h : GeA A xs B) (hb : b < B) : xs = [] ∨ ∀ k, blkOf A k → k ≠ b := h.imp_right fun h k hk => by have := h k hk; omega
theorem GeA.of_block {g o B : Nat} {s : Option Nat} {xs : List Value} (h : B ≤ g) : GeA (some ⟨g, o, s⟩) xs B := .inr fun k ⟨a, ha, hk⟩ => by cases ha; subst hk; exact h

theorem callF_bool {f : FuncId} {args : Array Value} {b : Bool} {D : World → Prop} (hc : Calls P f args w fun e w' => e = .returned (.bool b) ∧ D w') (ht : ∀ w', D w' → b = true → K (.bool true) w') (hf : ∀ w', D w' → b = false → K (.bool false) w') : callF P f args w R K :=
  callF_val hc fun w' hd => by cases b; exact hf w' hd rfl; exact ht w' hd rfl
theorem opv_T {r : Result Value} {p : Prop} [Decidable p] {w' : World} (h : r = .ok (.bool (decide p)) w') (hp : p) (k : K (.bool true) w') : opv r R K := by
  rw [h, decide_eq_true hp]; exact k
theorem opv_F {r : Result Value} {p : Prop} [Decidable p] {w' : World} (h : r = .ok (.bool (decide p)) w') (hp : ¬ p) (k : K (.bool false) w') : opv r R K := by
  rw [h, decide_eq_false hp]; exact k
theorem callF_T {f : FuncId} {args : Array Value} {b : Bool} {D : World → Prop} (hc : Calls P f args w fun e w' => e = .returned (.bool b) ∧ D w') (hb : b = true) (h : ∀ w', D w' → K (.bool true) w') : callF P f args w R K :=
  callF_val hc fun w' hd => by subst hb; exact h w' hd
theorem callF_F {f : FuncId} {args : Array Value} {b : Bool} {D : World → Prop} (hc : Calls P f args w fun e w' => e = .returned (.bool b) ∧ D w') (hb : b = false) (h : ∀ w', D w' → K (.bool false) w') : callF P f args w R K :=
  callF_val hc fun w' hd => by subst hb; exact h w' hd
/-! ### Integers in cells -/
def vals (k : IntKind) (xs : List Int) : List Value := xs.map (.int k)
theorem vals_length (k : IntKind) (xs : List Int) : (vals k xs).length = xs.length := by simp [vals]
theorem vals_at {k : IntKind} {xs : List Int} {i : Nat} {x : Int} (h : xs[i]? = some x) : (vals k xs)[i]? = some (.int k x) := by simp [vals, h]
theorem vals_one {k : IntKind} {xs : List Int} : ∀ u ∈ vals k xs, u.oneCell' = true := by intro u hu; simp [vals] at hu; obtain ⟨x, _, rfl⟩ := hu; rfl
theorem vals_all (k : IntKind) (xs : List Int) : (Value.agg (vals k xs).toArray).cells.all (·.oneCell') = true := by
  have : (Value.agg (vals k xs).toArray).cells = (vals k xs).toArray := rfl
  rw [this, Array.all_eq_true']
  intro u hu
  exact vals_one u (by simpa using hu)
theorem vals_set (k : IntKind) (xs : List Int) (i : Nat) (x : Int) : (vals k xs).set i (.int k x) = vals k (xs.set i x) := by simp [vals, List.map_set]
theorem vals_append (k : IntKind) (xs ys : List Int) : vals k xs ++ vals k ys = vals k (xs ++ ys) := by simp [vals]
theorem vals_take (k : IntKind) (xs : List Int) (n : Nat) : (vals k xs).take n = vals k (xs.take n) := by simp [vals, List.map_take]
/-- Bytes. -/
def Bs (xs : List Int) : Prop := ∀ x ∈ xs, 0 ≤ x ∧ x ≤ 255
instance (xs : List Int) : Decidable (Bs xs) := inferInstanceAs (Decidable (∀ x ∈ xs, 0 ≤ x ∧ x ≤ 255))
theorem Bs.get {xs : List Int} (h : Bs xs) {i : Nat} {x : Int} (hx : xs[i]? = some x) : 0 ≤ x ∧ x ≤ 255 := h x (List.mem_of_getElem? hx)
theorem Bs.append {xs ys : List Int} (h : Bs xs) (k : Bs ys) : Bs (xs ++ ys) := fun x hx => by rcases List.mem_append.1 hx with hx | hx; exact h x hx; exact k x hx
theorem Bs.nil : Bs [] := fun x hx => by cases hx
theorem Bs.one {x : Int} (h : 0 ≤ x ∧ x ≤ 255) : Bs [x] := fun y hy => by simp at hy; subst hy; exact h
theorem idx_int {t T len cap : Nat} {k k' : IntKind} {i : Int} {A : Option Addr} {xs : List Int} (hn : slN P t = some 1) (hT : isOne P T = true) (hr : Rd w A (vals k xs)) (hl : len = xs.length) (h0 : 0 ≤ i) (h1 : i < len)
    (h : ∀ x, xs[i.toNat]? = some x → K (.int k x) w) : opv ((Instr.indexAt t (.slice A len cap) (.int k' i)).run P w) R fun a w => opv ((Instr.loadAt T a).run P w) R K := by
  have hi : i.toNat < xs.length := by omega
  have hx : xs[i.toNat]? = some xs[i.toNat] := List.getElem?_eq_getElem hi
  exact idx_load1 hn hT hr (by rw [vals_length]; exact hl) h0 h1 (vals_at hx) (h _ hx)
/-- A store of one cell into a row. -/
theorem store1_intro {t : TypeId} {v : Value} {b o : Nat} {T : TypeId} {xs xs' : List Value} (hn : cellsN P t = some 1) (hv : v.cells = #[v]) (h1 : v.oneCell' = true)
    (hb : w.heap[b]? = some (.cells xs.toArray T (0, 0))) (hl : o < xs.length) (hx : xs.set o v = xs')
    (h : ∀ w', w'.heap[b]? = some (.cells xs'.toArray T (0, 0)) → w'.heap.size = w.heap.size → Upd (· = b) w w' → K undef w') :
    opu ((Instr.storeAt t (.pointer (some ⟨b, o, none⟩)) v).run P w) R K := by
  refine store_intro (n := 1) hn (by rw [hv]; rfl) (by rw [hv]; simp [h1]) hb (by simp only [List.size_toArray]; omega) (cs' := xs'.toArray) ?_ h
  subst hx
  rw [hv]
  congr 1
  simp only [List.set_eq_take_append_cons_drop, if_pos hl, List.append_assoc]
  simp

/-- Arrays of integers. -/
theorem vals_size (k : IntKind) (xs : List Int) : (vals k xs).toArray.size = xs.length := by simp [vals]
theorem ldAll {t n b : Nat} {T : TypeId} {fr : Nat × Nat} {xs : List Value} (hn : aggN P t = some n) (hb : w.heap[b]? = some (.cells xs.toArray T fr)) (hl : xs.length = n) :
    (Instr.loadAt t (.pointer (some ⟨b, 0, none⟩))).run P w = .ok (.agg xs.toArray) w := by
  refine ldA hn hb (by simp [hl]) ?_
  subst hl
  simp
theorem storeAll_intro {t n : Nat} {b : Nat} {T : TypeId} {xs ys : List Value} (hn : cellsN P t = some n) (hy : ys.length = n) (hx : xs.length = n) (h1 : ∀ u ∈ ys, u.oneCell' = true)
    (hb : w.heap[b]? = some (.cells xs.toArray T (0, 0)))
    (h : ∀ w', w'.heap[b]? = some (.cells ys.toArray T (0, 0)) → w'.heap.size = w.heap.size → Upd (· = b) w w' → K undef w') :
    opu ((Instr.storeAt t (.pointer (some ⟨b, 0, none⟩)) (.agg ys.toArray)).run P w) R K := by
  have hc : (Value.agg ys.toArray).cells = ys.toArray := rfl
  refine store_intro (n := n) hn (by rw [hc]; simpa using hy) (by rw [hc, Array.all_eq_true']; intro u hu; exact h1 u (by simpa using hu)) hb (by simp [hx]) (cs' := ys.toArray) ?_ h
  rw [hc]
  subst hx
  simp
theorem index_arrI {t n : Nat} {k k' : IntKind} {i : Int} {xs : List Int} (hn : arOne P t = some n) (hl : xs.length = n) (h0 : 0 ≤ i) (h1 : i < n)
    (h : ∀ x, xs[i.toNat]? = some x → K (.int k x) w) : opv ((Instr.index t (.agg (vals k xs).toArray) (.int k' i)).run P w) R K := by
  have hi : i.toNat < xs.length := by omega
  have hx : xs[i.toNat]? = some xs[i.toNat] := List.getElem?_eq_getElem hi
  exact opv_run (index_arr hn h0 h1 (by simpa using vals_at hx)) (h _ hx)
theorem idx_arrint {t U n b : Nat} {T : TypeId} {fr : Nat × Nat} {k k' : IntKind} {i : Int} {xs : List Int} (hn : (match P.underlying t with | some (.array n e) => (cellsN P e).map (n, ·) | _ => none) = some (n, 1)) (hT : isOne P U = true)
    (hb : w.heap[b]? = some (.cells (vals k xs).toArray T fr)) (hl : xs.length = n) (h0 : 0 ≤ i) (h1 : i < n) (h : ∀ x, xs[i.toNat]? = some x → K (.int k x) w) :
    opv ((Instr.indexAt t (.pointer (some ⟨b, 0, none⟩)) (.int k' i)).run P w) R fun a w => opv ((Instr.loadAt U a).run P w) R K := by
  have hi : i.toNat < xs.length := by omega
  have hx : xs[i.toNat]? = some xs[i.toNat] := List.getElem?_eq_getElem hi
  refine opv_run (index_arrp hn h0 h1) (opv_run (ldC hT hb ?_) (h _ hx))
  simpa using vals_at hx
theorem ld_arrint {U b i : Nat} {T : TypeId} {fr : Nat × Nat} {k : IntKind} {xs : List Int} (hT : isOne P U = true) (hb : w.heap[b]? = some (.cells (vals k xs).toArray T fr)) (hi : i < xs.length) (h : ∀ x, xs[i]? = some x → K (.int k x) w) :
    opv ((Instr.loadAt U (.pointer (some ⟨b, 0 + i * 1, none⟩))).run P w) R K := by
  have hx : xs[i]? = some xs[i] := List.getElem?_eq_getElem hi
  refine opv_run (ldC hT hb ?_) (h _ hx)
  simpa using vals_at hx
theorem cnt_lt {N k : Nat} {v v' : Value} (h : v = .int .i64 k) (h' : v' = .int .i64 ((k : Int) + 1)) (hk : k < N) : N - (RowKit.intOf v').toNat < N - (RowKit.intOf v).toNat := by
  subst h; subst h'
  simp only [RowKit.intOf]
  omega
theorem fill_step {α : Type} {L : List α} {z x : α} {k : Nat} (hx : L[k]? = some x) : (L.take k ++ List.replicate (L.length - k) z).set k x = L.take (k + 1) ++ List.replicate (L.length - (k + 1)) z := by
  have hk : k < L.length := (List.getElem?_eq_some_iff.1 hx).1
  have e : L.length - k = (L.length - (k + 1)) + 1 := by omega
  rw [e, List.replicate_succ, List.set_append_right _ _ (by simp; omega)]
  have : k - (L.take k).length = 0 := by simp; omega
  rw [this, List.set_cons_zero, List.take_add_one, hx]
  simp
theorem find_take {α : Type} {l : List α} {k : Nat} {p : α} {f : α → Bool} (hp : l[k]? = some p) (hn : (l.take k).find? f = none) (hf : f p = false) : (l.take (k + 1)).find? f = none := by
  rw [List.take_add_one, hp, List.find?_append, hn]
  simp [hf]
theorem find_some {α : Type} {l : List α} {k : Nat} {p : α} {f : α → Bool} (hp : l[k]? = some p) (hn : (l.take k).find? f = none) (hf : f p = true) : l.find? f = some p := by
  have hk : k < l.length := (List.getElem?_eq_some_iff.1 hp).1
  have e : l.take (k + 1) = l.take k ++ [p] := by rw [List.take_add_one, hp]; rfl
  rw [← List.take_append_drop (k + 1) l, e, List.find?_append, List.find?_append, hn]
  simp [hf]

theorem index_str {t : TypeId} {s : ByteArray} {k : IntKind} {i : Int} (ht : isStr P t = true) (h0 : 0 ≤ i) (h1 : i < s.size) (h : ∀ x : UInt8, s.data.toList[i.toNat]? = some x → K (.int .u8 x.toNat) w) :
    opv ((Instr.index t (.string s) (.int k i)).run P w) R K := by
  unfold isStr at ht
  split at ht
  · rename_i hd
    have hi : i.toNat < s.size := by omega
    have hl : i.toNat < s.data.toList.length := by simpa using hi
    refine opv_run (v := .int .u8 (s.data.toList[i.toNat]).toNat) ?_ (h _ (List.getElem?_eq_getElem hl))
    simp [Instr.index, asIntOf, Sem.run_bind, Result.andThen, run_underlying hd, h0, h1, ByteArray.get!, hi]
    rfl
  · cases ht
/-! ### Regions that draw, where nothing is written -/
theorem movesExt : Moves Ext := ⟨fun w => RowKit.Below.refl _ w, fun {a b c} h k => (Fr.go0 (Fr.of_below h) (Fr.of_below k)).below, fun h => h⟩
theorem qop_T {T : World → World → Prop} {Q : Value → Prop} {s : Sem Value} {p : Prop} [Decidable p] (hr : ∀ w', T w w' → s.run P w' = .ok (.bool (decide p)) w') (hp : p) (h : Q (.bool true)) : qop T w (fun w K => opv (s.run P w) noR K) Q :=
  ⟨.bool true, fun w' hw => opv_T (hr w' hw) hp ⟨rfl, RowKit.Below.refl _ _⟩, h⟩
theorem qop_F {T : World → World → Prop} {Q : Value → Prop} {s : Sem Value} {p : Prop} [Decidable p] (hr : ∀ w', T w w' → s.run P w' = .ok (.bool (decide p)) w') (hp : ¬ p) (h : Q (.bool false)) : qop T w (fun w K => opv (s.run P w) noR K) Q :=
  ⟨.bool false, fun w' hw => opv_F (hr w' hw) hp ⟨rfl, RowKit.Below.refl _ _⟩, h⟩
theorem drawn_ext {A : (World → World → Prop) → World → Prop} (h : ∀ w1, Upd no w w1 → A Ext w1) : drawn w A := ⟨Ext, movesExt, h _ (Upd.drawn w)⟩
theorem ext_intro {K : World → Prop} (h : ∀ w1, Upd no w w1 → K w1) : ext w K := fun w' hw => h w' (Fr.of_below hw)
section
variable {T : World → World → Prop} {Q : Value → Prop}
theorem qop_run {s : Sem Value} {v : Value} (hr : ∀ w', T w w' → s.run P w' = .ok v w') (h : Q v) : qop T w (fun w K => opv (s.run P w) noR K) Q :=
  ⟨v, fun w' hw => opv_run (hr w' hw) ⟨rfl, RowKit.Below.refl _ _⟩, h⟩
theorem qop_dec {s : Sem Value} {p : Prop} [Decidable p] (hr : ∀ w', T w w' → s.run P w' = .ok (.bool (decide p)) w') (ht : p → Q (.bool true)) (hf : ¬ p → Q (.bool false)) : qop T w (fun w K => opv (s.run P w) noR K) Q :=
  qop_run hr (by by_cases hp : p; rw [decide_eq_true hp]; exact ht hp; rw [decide_eq_false hp]; exact hf hp)
theorem qop_call {f : FuncId} {args : Array Value} {v : Value} (hc : ∀ w', T w w' → Calls P f args w' fun e w'' => e = .returned v ∧ Upd no w' w'') (h : Q v) : qop T w (fun w K => callF P f args w noR K) Q :=
  ⟨v, fun w' hw => callF_val (hc w' hw) fun w'' u => ⟨rfl, u.below⟩, h⟩
theorem qop_callb {f : FuncId} {args : Array Value} {b : Bool} (hc : ∀ w', T w w' → Calls P f args w' fun e w'' => e = .returned (.bool b) ∧ Upd no w' w'') (ht : b = true → Q (.bool true)) (hf : b = false → Q (.bool false)) : qop T w (fun w K => callF P f args w noR K) Q :=
  qop_call hc (by cases b; exact hf rfl; exact ht rfl)
theorem qgdtt {op : World → (Value → World → Prop) → Prop} (h : qop T w op Q) : qop T w (fun w K => gd (.bool true) true (fun K => op w K) w K) Q := h
theorem qgdff {op : World → (Value → World → Prop) → Prop} (h : qop T w op Q) : qop T w (fun w K => gd (.bool false) false (fun K => op w K) w K) Q := h
theorem qskip {op : World → (Value → World → Prop) → Prop} {v : Value} (hs : ∀ w K, op w K = K v w) (h : Q v) : qop T w op Q := ⟨v, fun w' _ => by rw [hs]; exact ⟨rfl, RowKit.Below.refl _ _⟩, h⟩
theorem qgdtf {op : World → (Value → World → Prop) → Prop} (h : Q undef) : qop T w (fun w K => gd (.bool true) false (fun K => op w K) w K) Q := qskip (fun _ _ => rfl) h
theorem qgdft {op : World → (Value → World → Prop) → Prop} (h : Q undef) : qop T w (fun w K => gd (.bool false) true (fun K => op w K) w K) Q := qskip (fun _ _ => rfl) h
theorem qgdun {want : Bool} {op : World → (Value → World → Prop) → Prop} (h : Q undef) : qop T w (fun w K => gd undef want (fun K => op w K) w K) Q := qskip (fun _ _ => rfl) h
theorem qpickt {a b : Value} (h : Q a) : qop T w (fun w K => pick (.bool true) a b w K) Q := qskip (fun _ _ => rfl) h
theorem qpickf {a b : Value} (h : Q b) : qop T w (fun w K => pick (.bool false) a b w K) Q := qskip (fun _ _ => rfl) h
theorem qnilckp {a : Addr} (h : Q (.pointer (some a))) : qop T w (fun w K => nilck (.pointer (some a)) w K) Q := qskip (fun _ _ => rfl) h
theorem qmove {x : Value} (h : Q x) : qop T w (fun w K => K x w) Q := qskip (fun _ _ => rfl) h
theorem qidx_int {t U len cap : Nat} {k k' : IntKind} {i : Int} {A : Option Addr} {xs : List Int} (hn : slN P t = some 1) (hT : isOne P U = true) (hr : Rd w A (vals k xs)) (hl : len = xs.length) (h0 : 0 ≤ i) (h1 : i < len)
    (h : ∀ x, xs[i.toNat]? = some x → Q (.int k x)) : qop Ext w (fun w K => opv ((Instr.indexAt t (.slice A len cap) (.int k' i)).run P w) noR K) fun a => qop Ext w (fun w K => opv ((Instr.loadAt U a).run P w) noR K) Q := by
  have hi : i.toNat < xs.length := by omega
  have hx : xs[i.toNat]? = some xs[i.toNat] := List.getElem?_eq_getElem hi
  have hr0 := hr
  rcases hr with hr | ⟨a, rfl, hc⟩
  · have := congrArg List.length hr; rw [vals_length] at this; simp at this; subst this; simp at hi
  · refine qop_run (fun w' _ => index_sl (n := 1) hn h0 h1) (qop_run (fun w' hw => load_cell hT ?_) (h _ hx))
    rcases hr0.upd0 (Fr.of_below hw) with hr | ⟨a', ha, hc'⟩
    · have := congrArg List.length hr; rw [vals_length] at this; simp at this; subst this; simp at hi
    · cases ha
      rw [Nat.mul_one, hc' _ (by rw [vals_length]; omega)]
      exact vals_at hx
theorem qidx_arrint {t U n b : Nat} {T : TypeId} {fr : Nat × Nat} {k k' : IntKind} {i : Int} {xs : List Int} (hn : (match P.underlying t with | some (.array n e) => (cellsN P e).map (n, ·) | _ => none) = some (n, 1)) (hT : isOne P U = true)
    (hb : w.heap[b]? = some (.cells (vals k xs).toArray T fr)) (hl : xs.length = n) (h0 : 0 ≤ i) (h1 : i < n) (h : ∀ x, xs[i.toNat]? = some x → Q (.int k x)) :
    qop Ext w (fun w K => opv ((Instr.indexAt t (.pointer (some ⟨b, 0, none⟩)) (.int k' i)).run P w) noR K) fun a => qop Ext w (fun w K => opv ((Instr.loadAt U a).run P w) noR K) Q := by
  have hi : i.toNat < xs.length := by omega
  have hx : xs[i.toNat]? = some xs[i.toNat] := List.getElem?_eq_getElem hi
  refine qop_run (fun w' _ => index_arrp hn h0 h1) (qop_run (fun w' hw => ldC hT ((Fr.of_below hw).get0 hb) ?_) (h _ hx))
  simpa using vals_at hx
theorem qindex_arrI {t n : Nat} {k k' : IntKind} {i : Int} {xs : List Int} (hn : arOne P t = some n) (hl : xs.length = n) (h0 : 0 ≤ i) (h1 : i < n)
    (h : ∀ x, xs[i.toNat]? = some x → Q (.int k x)) : qop T w (fun w K => opv ((Instr.index t (.agg (vals k xs).toArray) (.int k' i)).run P w) noR K) Q := by
  have hi : i.toNat < xs.length := by omega
  have hx : xs[i.toNat]? = some xs[i.toNat] := List.getElem?_eq_getElem hi
  exact qop_run (fun w' _ => index_arr hn h0 h1 (by simpa using vals_at hx)) (h _ hx)
theorem qindex_str {t : TypeId} {s : ByteArray} {k : IntKind} {i : Int} (ht : isStr P t = true) (h0 : 0 ≤ i) (h1 : i < s.size) (h : ∀ x : UInt8, s.data.toList[i.toNat]? = some x → Q (.int .u8 x.toNat)) :
    qop T w (fun w K => opv ((Instr.index t (.string s) (.int k i)).run P w) noR K) Q := by
  have hi : i.toNat < s.size := by omega
  have hl : i.toNat < s.data.toList.length := by simpa using hi
  refine ⟨.int .u8 (s.data.toList[i.toNat]).toNat, fun w' _ => index_str ht h0 h1 fun x hx => ⟨?_, RowKit.Below.refl _ _⟩, h _ (List.getElem?_eq_getElem hl)⟩
  rw [List.getElem?_eq_getElem hl] at hx
  cases hx; rfl
end

/-! ### Rows that a call owns -/
def apN (P : Program) (t : TypeId) : Option (Nat × Nat × Nat) := match P.underlying t with
  | some (.slice e) => (match P.info? e with
    | some i => (match i.zero with
      | some z => (match Nat.beq z.cells.size i.size, i.size with | true, _ + 1 => some (e, i.size, i.bytes) | _, _ => none)
      | none => none)
    | none => none)
  | _ => none
/-- A slice that is the call's own from block B on: nil, or a row of its own. -/
def Own (B : Nat) (w : World) (e size : Nat) (v : Value) (xs : List Value) : Prop := ∃ n, w.ownsRow B e size v n xs
def ownS (v : Value) : Nat → Prop := fun k => some k = v.ownBlock
theorem Own.ge {B : Nat} {w : World} {e size : Nat} {v : Value} {xs : List Value} (h : Own B w e size v xs) {k : Nat} (hk : ownS v k) : B ≤ k ∧ k < w.heap.size := by
  obtain ⟨n, _, h⟩ := h
  rcases h with ⟨rfl, _⟩ | ⟨g, cap, cur, rfl, hb, hg, _⟩
  · cases hk
  · cases hk; exact ⟨hb, lt_get hg⟩
theorem Own.mono {B B' : Nat} {w : World} {e size : Nat} {v : Value} {xs : List Value} (h : Own B w e size v xs) (hB : B' ≤ B) : Own B' w e size v xs := by
  obtain ⟨n, hl, h⟩ := h
  refine ⟨n, hl, h.imp_right ?_⟩
  rintro ⟨g, cap, cur, rfl, hb, r⟩
  exact ⟨g, cap, cur, rfl, Nat.le_trans hB hb, r⟩
theorem Own.updS {S : Nat → Prop} {B : Nat} {w w' : World} {e size : Nat} {v : Value} {xs : List Value} (h : Own B w e size v xs) (u : Upd S w w') (hs : ∀ k, ownS v k → ¬ S k) : Own B w' e size v xs := by
  obtain ⟨n, hl, h⟩ := h
  refine ⟨n, hl, h.imp_right ?_⟩
  rintro ⟨g, cap, cur, rfl, hb, hg, r⟩
  exact ⟨g, cap, cur, rfl, hb, u.get hg (hs g rfl), r⟩
theorem Own.upd0 {B : Nat} {w w' : World} {e size : Nat} {v : Value} {xs : List Value} (h : Own B w e size v xs) (u : Upd no w w') : Own B w' e size v xs := h.updS u (fun _ _ => id)
theorem Own.upd1 {B b : Nat} {w w' : World} {e size : Nat} {v : Value} {xs : List Value} (h : Own B w e size v xs) (u : Upd (· = b) w w') (hs : ∀ k, ownS v k → k ≠ b) : Own B w' e size v xs := h.updS u hs
theorem Own.apart {B : Nat} {w : World} {e size : Nat} {v : Value} {xs : List Value} (h : Own B w e size v xs) {b : Nat} (hb : b = w.heap.size) : ∀ k, ownS v k → k ≠ b := fun k hk => by have := (h.ge hk).2; omega
theorem Own.nil (B : Nat) (w : World) (e size : Nat) : Own B w e size (.slice none 0 0) [] := ⟨0, by simp, .inl ⟨rfl, rfl⟩⟩
theorem Own.of_block {B : Nat} {w : World} {e size g n : Nat} {xs : List Value} (hg : w.heap[g]? = some (.cells xs.toArray e (0, 0))) (hB : B ≤ g) (hn : xs.length = n * size) (hm : n ≤ maxLen) : Own B w e size (.slice (some ⟨g, 0, none⟩) n n) xs :=
  ⟨n, hn, .inr ⟨g, n, _, rfl, hB, hg, Nat.le_refl _, hm, by simpa using hn, by rw [← hn]; simp⟩⟩
/-- What it is to read it. -/
theorem Own.rd {B : Nat} {w : World} {e size : Nat} {v : Value} {xs : List Value} (h : Own B w e size v xs) : ∃ A len cap, v = .slice A len cap ∧ xs.length = len * size ∧ Rd w A xs := by
  obtain ⟨n, hl, h⟩ := h
  rcases h with ⟨rfl, rfl⟩ | ⟨g, cap, cur, rfl, hb, hg, hc, hm, hs, ht⟩
  · exact ⟨none, 0, 0, rfl, hl, .inl (List.length_eq_zero_iff.1 (by simpa using hl))⟩
  · exact ⟨_, n, cap, rfl, hl, by rw [← ht]; exact (Rd.of_block hg).take _⟩
/-- What is appended, to a row of one's own. -/
theorem app_intro {t ty e size bytes : Nat} {B m c : Nat} {v : Value} {A : Option Addr} {xs news : List Value} (ht : apN P t = some (e, size, bytes)) (hown : Own B w e size v xs) (hr : Rd w A news) (hl : news.length = m * size)
    (h1 : ∀ u ∈ news, u.oneCell' = true) (hbytes : (xs.length + news.length) * (bytes + 1) ≤ 140737488355328) (hB : B ≤ w.heap.size)
    (h : ∀ v' w', Own B w' e size v' (xs ++ news) → Upd (ownS v) w w' → K v' w') : opv ((Builtin.append_ #[t, t] ty #[v, .slice A m c]).run P w) R K := by
  unfold apN at ht
  split at ht
  · rename_i e' hu
    split at ht
    · rename_i i hi
      split at ht
      · rename_i z hz
        split at ht
        · rename_i s' hzs hsz
          cases ht
          obtain ⟨n, hown⟩ := hown
          have hzs := Nat.eq_of_beq_eq_true hzs
          have hpos : 0 < i.size := by omega
          have hxl := hown.1
          have hxn : n ≤ xs.length := by rw [hxl]; exact Nat.le_mul_of_pos_right _ hpos
          have hmn : m ≤ news.length := by rw [hl]; exact Nat.le_mul_of_pos_right _ hpos
          have hsum : n + m ≤ xs.length + news.length := by omega
          have hb1 : (n + m) * i.bytes ≤ (xs.length + news.length) * (i.bytes + 1) := Nat.mul_le_mul hsum (by omega)
          have hb2 : (n + m) * 1 ≤ (xs.length + news.length) * (i.bytes + 1) := Nat.mul_le_mul hsum (by omega)
          rw [Nat.mul_one] at hb2
          have key : ∃ v' w', (Builtin.append_ #[t, t] ty #[v, .slice A m c]).run P w = .ok v' w' ∧ w'.ownsRow B e i.size v' (n + m) (xs ++ news) ∧ w.grownBy w' v.ownBlock := by
            cases A with
            | some a =>
              have hnews : ∀ j u, news[j]? = some u → w.cell? (a.add j) = some u := by
                intro j u hj
                rcases hr with rfl | ⟨a', ha, hc⟩
                · simp at hj
                · cases ha
                  rw [hc j (by have := List.getElem?_eq_some_iff.1 hj; exact this.1)]; exact hj
              obtain ⟨v', w', r1, r2, r3, _⟩ := run_append_own (P := P) w B t ty e i z i.size i.bytes hu hi hz rfl rfl hzs hpos v n xs hown a m c news hl hnews h1 (by simp only [maxLen]; omega) (by omega) hB
              exact ⟨v', w', r1, r2, r3⟩
            | none =>
              have hn0 : news = [] := by
                rcases hr with h | ⟨a', ha, _⟩
                · exact h
                · cases ha
              subst hn0
              have hm0 : m = 0 := by
                rcases Nat.eq_zero_or_pos m with h | h
                · exact h
                · have := Nat.mul_pos h hpos; simp at hl; omega
              subst hm0
              refine ⟨v, w, ?_, by simpa using hown, ⟨rfl, rfl, rfl, Nat.le_refl _, fun k _ _ => rfl⟩⟩
              rcases hown.2 with ⟨rfl, rfl⟩ | ⟨g, cap, cur, rfl, hb, hg, hc, hm, hs, hta⟩
              · simp [Builtin.append_, Sem.run_bind, Result.andThen, run_underlying hu, sizeOf, typeInfo, hi, Builtin.lenOf, Builtin.firstCells]
              · simp [Builtin.append_, Sem.run_bind, Result.andThen, run_underlying hu, sizeOf, typeInfo, hi, Builtin.lenOf, Builtin.firstCells, hc, storeCells]
          obtain ⟨v', w', r1, r2, r3⟩ := key
          refine opv_run r1 (h v' w' ⟨_, r2⟩ ⟨r3.os, r3.tape, r3.output, r3.size, fun k hk hs => r3.block k hk (fun e => hs e)⟩)
        · cases ht
      · cases ht
    · cases ht
  · cases ht
/-! ### What is returned -/
theorem retB {p q : Prop} [Decidable p] [Decidable q] (h : p ↔ q) : Ending.returned (.bool (decide p)) = .returned (.bool (decide q)) := by
  by_cases hp : p
  · rw [decide_eq_true hp, decide_eq_true (h.1 hp)]
  · rw [decide_eq_false hp, decide_eq_false (fun hq => hp (h.2 hq))]
theorem retT {q : Prop} [Decidable q] (h : q) : Ending.returned (.bool true) = .returned (.bool (decide q)) := by rw [decide_eq_true h]
theorem retF {q : Prop} [Decidable q] (h : ¬ q) : Ending.returned (.bool false) = .returned (.bool (decide q)) := by rw [decide_eq_false h]
theorem retI {k : IntKind} {a b : Int} (h : a = b) : Ending.returned (.int k a) = .returned (.int k b) := by rw [h]
/-- Pairs of bytes, as cells. -/
def prs (l : List (Int × Int)) : List Value := l.flatMap fun p => [.int .u8 p.1, .int .u8 p.2]
theorem prs_length (l : List (Int × Int)) : (prs l).length = l.length * 2 := by
  induction l with
  | nil => rfl
  | cons p l ih =>
    have : prs (p :: l) = .int .u8 p.1 :: .int .u8 p.2 :: prs l := rfl
    rw [this]; simp [ih]; omega
theorem prs_at (l : List (Int × Int)) (i : Nat) (p : Int × Int) (h : l[i]? = some p) : ((prs l).drop (i * 2)).take 2 = [.int .u8 p.1, .int .u8 p.2] := by
  induction l generalizing i with
  | nil => simp at h
  | cons q l ih =>
    have hp : prs (q :: l) = .int .u8 q.1 :: .int .u8 q.2 :: prs l := rfl
    cases i with
    | zero => simp at h; subst h; rw [hp]; simp
    | succ i =>
      have := ih i (by simpa using h)
      rw [hp, show (i + 1) * 2 = i * 2 + 1 + 1 from by omega]
      simpa using this
/-! ### Strings -/
def str (l : List UInt8) : Value := .string ⟨l.toArray⟩
theorem str_size (l : List UInt8) : (⟨l.toArray⟩ : ByteArray).size = l.length := by simp [ByteArray.size]
theorem app_size (x y : ByteArray) : (x ++ y).size = x.size + y.size := by simp
theorem addS {t : TypeId} {x y : ByteArray} (h : x.size + y.size ≤ 9223372036854775807) : (binOp .add t (.string x) (.string y)).run P w = .ok (.string (x ++ y)) w := by
  simp [go_sem, binOp, h]
theorem convIS {s t : TypeId} {k : IntKind} {n : Int} (hs : (intK P s).isSome = true) (ht : isStr P t = true) : (convert s t (.int k n)).run P w = .ok (.string (Utf8.encode n)) w := by
  unfold intK at hs
  unfold isStr at ht
  split at hs
  · rename_i k1 h1
    split at ht
    · rename_i h2
      simp [convert, Sem.run_bind, Result.andThen, run_underlying h1, run_underlying h2, Conv.intToString]
    · cases ht
  · cases hs
/-- A range over a string. -/
theorem range_str {t : TypeId} {s : ByteArray} (ht : isStr P t = true)
    (h : ∀ b w', b = w.heap.size → w'.heap[b]? = some (.stringIter s 0) → w'.heap.size = w.heap.size + 1 → Upd no w w' → K (.pointer (some ⟨b, 0, none⟩)) w') : opv ((Instr.range t (.string s)).run P w) R K := by
  unfold isStr at ht
  split at ht
  · rename_i hd
    have hr : (Instr.range t (.string s)).run P w = .ok (.pointer (some ⟨w.heap.size, 0, none⟩)) { w with heap := w.heap.push (.stringIter s 0) } := by
      simp [Instr.range, Sem.run_bind, Result.andThen, run_underlying hd]
    rw [hr]
    exact h _ _ rfl (by simp) (by simp) ⟨rfl, rfl, rfl, by simp, fun k hk _ => by simp [Array.getElem?_push]; omega⟩
  · cases ht
theorem next_str {b pos : Nat} {s : ByteArray} {ty : TypeId} (hb : w.heap[b]? = some (.stringIter s pos))
    (h1 : pos < s.size → ∀ w', w'.heap[b]? = some (.stringIter s (pos + (Utf8.decode s pos).2)) → w'.heap.size = w.heap.size → Upd (· = b) w w' → K (.tuple #[.bool true, .int .i64 pos, .int .i32 (Utf8.decode s pos).1]) w')
    (h2 : ¬ pos < s.size → K (.tuple #[.bool false]) w) : opv ((Instr.next (.pointer (some ⟨b, 0, none⟩)) true ty).run P w) R K := by
  by_cases hp : pos < s.size
  · refine opv_run (Lib.run_next_any_at w b s pos ty hb hp) ?_
    exact h1 hp _ (Lib.iterAt_heap w b s pos _ hb) (Lib.iterAt_size _ _ _ _) ⟨rfl, rfl, rfl, by rw [Lib.iterAt_size]; exact Nat.le_refl _, fun k hk hn => Lib.iterAt_other w b k s _ hn⟩
  · exact opv_run (Lib.run_next_end_at w b s pos ty hb hp) (h2 hp)

def iterP (w : World) (b : Nat) : Nat := match w.heap[b]? with | some (.stringIter _ p) => p | _ => 0
theorem iterP_eq {b p : Nat} {s : ByteArray} (h : w.heap[b]? = some (.stringIter s p)) : iterP w b = p := by simp [iterP, h]
theorem meas_iter {w w' : World} {b p p' N : Nat} {s : ByteArray} (h : w.heap[b]? = some (.stringIter s p)) (h' : w'.heap[b]? = some (.stringIter s p')) (hp : p < p') (hN : p < N) : N - iterP w' b < N - iterP w b := by
  rw [iterP_eq h, iterP_eq h']; omega
theorem Own.not_iter {B : Nat} {w : World} {e size : Nat} {v : Value} {xs : List Value} {b p : Nat} {s : ByteArray} (h : Own B w e size v xs) (hb : w.heap[b]? = some (.stringIter s p)) : ∀ k, ownS v k → k ≠ b := by
  intro k hk e
  subst e
  obtain ⟨n, _, h' | ⟨g, cap, cur, hv, _, hg, _⟩⟩ := h
  · rw [h'.1] at hk; cases hk
  · rw [hv] at hk; cases hk; rw [hb] at hg; cases hg
theorem Own.not_map {B : Nat} {w : World} {e size : Nat} {v : Value} {xs : List Value} {b : Nat} {es : Array MapEntry} {c : Nat} (h : Own B w e size v xs) (hb : w.heap[b]? = some (.map es c)) : ∀ k, ownS v k → k ≠ b := by
  intro k hk e
  subst e
  obtain ⟨n, _, h' | ⟨g, cap, cur, hv, _, hg, _⟩⟩ := h
  · rw [h'.1] at hk; cases hk
  · rw [hv] at hk; cases hk; rw [hb] at hg; cases hg
theorem Own.rd1 {B : Nat} {w : World} {e : Nat} {v : Value} {k : IntKind} {xs : List Int} (h : Own B w e 1 v (vals k xs)) : ∃ A c, v = .slice A xs.length c ∧ Rd w A (vals k xs) := by
  obtain ⟨A, len, cap, hv, hl, hr⟩ := h.rd
  rw [vals_length] at hl
  exact ⟨A, cap, by rw [hv]; congr 1; omega, hr⟩
theorem own_apart {B1 B2 : Nat} {w1 w2 : World} {e size n c : Nat} {v1 : Value} {A : Option Addr} {xs ys : List Value} (h1 : Own B1 w1 e size v1 xs) (hB : w1.heap.size ≤ B2) (h2 : Own B2 w2 e size (.slice A n c) ys) : ∀ k, blkOf A k → ¬ ownS v1 k := by
  rintro k ⟨a, rfl, rfl⟩ hk
  have := (h1.ge hk).2
  have := (h2.ge (k := a.block) rfl).1
  omega
theorem own_take {B : Nat} {w : World} {e : Nat} {v : Value} {K : IntKind} {xs : List Int} {k : Nat} {x : Int} (hx : xs[k]? = some x) (h : Own B w e 1 v (vals K (xs.take k) ++ [.int K x])) : Own B w e 1 v (vals K (xs.take (k + 1))) := by
  rw [List.take_add_one, hx]; simpa [vals] using h
theorem own_snoc {B : Nat} {w : World} {e : Nat} {v : Value} {K : IntKind} {xs : List Int} {x : Int} (h : Own B w e 1 v (vals K xs ++ [.int K x])) : Own B w e 1 v (vals K (xs ++ [x])) := by
  simpa [vals] using h
theorem take_same {α : Type} {xs ys : List α} {k : Nat} {x y : α} (h : xs.take k = ys.take k) (hx : xs[k]? = some x) (hy : ys[k]? = some y) (e : x = y) : xs.take (k + 1) = ys.take (k + 1) := by
  rw [List.take_add_one, List.take_add_one, h, hx, hy, e]
theorem take_all {α : Type} {xs ys : List α} {k : Nat} (h : xs.take k = ys.take k) (hx : xs.length ≤ k) (hy : ys.length ≤ k) : xs = ys := by
  rwa [List.take_of_length_le hx, List.take_of_length_le hy] at h

def b2s (xs : List Int) : ByteArray := ⟨(xs.map fun n => UInt8.ofNat n.toNat).toArray⟩
theorem foldl_push (ns : List Int) (r : ByteArray) : (ns.foldl (fun r n => r.push (UInt8.ofNat n.toNat)) r).data.toList = r.data.toList ++ ns.map fun n => UInt8.ofNat n.toNat := by
  induction ns generalizing r with
  | nil => simp
  | cons n ns ih => rw [List.foldl_cons, ih]; simp
theorem convBS {s t e len cap : Nat} {A : Option Addr} {xs : List Int} (hs : P.underlying s = some (.slice e)) (he : P.underlying e = some (.int .u8)) (ht : P.underlying t = some .string) (hr : Rd w A (vals .u8 xs)) (hl : len = xs.length) :
    (convert s t (.slice A len cap)).run P w = .ok (.string (b2s xs)) w := by
  rw [run_convert_bytes_string w s t e A len cap hs he ht]
  subst hl
  cases A with
  | none =>
    have : xs = [] := by
      rcases hr with h | ⟨a, ha, _⟩
      · have := congrArg List.length h; rw [vals_length] at this; exact List.length_eq_zero_iff.1 (by simpa using this)
      · cases ha
    subst this
    rfl
  | some a =>
    have hcell : ∀ j, j < xs.length → w.cell? (a.add j) = some (.int .u8 (xs.getD j 0)) := by
      intro j hj
      rcases hr with h | ⟨a', ha, hc⟩
      · have := congrArg List.length h; rw [vals_length] at this; simp at this; subst this; simp at hj
      · cases ha
        rw [hc j (by rw [vals_length]; exact hj), vals_at (List.getElem?_eq_getElem hj)]
        simp [List.getD, List.getElem?_eq_getElem hj]
    have hlc := run_loadCells (P := P) w a xs.length (fun j => .int .u8 (xs.getD j 0)) hcell
    have hm : ((List.range xs.length).map fun j => Value.int .u8 (xs.getD j 0)).toArray = (xs.map (Value.int .u8)).toArray := by
      congr 1
      apply List.ext_getElem
      · simp
      · intro j h1 h2
        simp at h2
        simp [List.getD, List.getElem?_eq_getElem h2]
    rw [hm] at hlc
    rw [run_bytesToString w a xs.length cap xs hlc]
    congr 2
    rw [bytes_eq_iff, foldl_push]
    simp [b2s]
/-! ### Maps with integers for keys -/
def mget (l : List (Int × Value)) (k : Int) : Option Value := (l.find? (fun p => p.1 == k)).map (·.2)
def mset : List (Int × Value) → Int → Value → List (Int × Value)
  | [], k, v => [(k, v)]
  | p :: l, k, v => if p.1 = k then (k, v) :: l else p :: mset l k v
theorem mget_mset (l : List (Int × Value)) (k : Int) (v : Value) (j : Int) : mget (mset l k v) j = if k = j then some v else mget l j := by
  induction l with
  | nil => by_cases h : k = j <;> simp [mset, mget, h]
  | cons p l ih =>
    simp only [mset]
    by_cases hp : p.1 = k
    · rw [if_pos hp]
      by_cases h : k = j
      · simp [mget, h]
      · have h2 : ¬ p.1 = j := by rw [hp]; exact h
        simp [mget, h, h2]
    · rw [if_neg hp]
      by_cases h : p.1 = j
      · have h2 : ¬ k = j := fun e => hp (by rw [h, e])
        simp [mget, h, h2]
      · have : mget (p :: mset l k v) j = mget (mset l k v) j := by simp [mget, h]
        rw [this, ih]
        simp [mget, h]
theorem mset_none {l : List (Int × Value)} {n : Int} {v : Value} (hnone : mget l n = none) : mset l n v = l ++ [(n, v)] := by
  induction l with
  | nil => rfl
  | cons p l ih =>
    have hp : ¬ p.1 = n := by intro e; simp [mget, e] at hnone
    have : mget l n = none := by simpa [mget, hp] using hnone
    simp [mset, hp, ih this]
def MapI (w : World) (k : IntKind) (b : Nat) (l : List (Int × Value)) : Prop := ∃ es c, w.heap[b]? = some (.map es c) ∧ es.toList.map (fun e => (e.key, e.val)) = l.map fun p => (Value.int k p.1, p.2)
theorem MapI.updS {S : Nat → Prop} {w w' : World} {k : IntKind} {b : Nat} {l : List (Int × Value)} (h : MapI w k b l) (u : Upd S w w') (hs : ¬ S b) : MapI w' k b l := by
  obtain ⟨es, c, hb, he⟩ := h
  exact ⟨es, c, u.get hb hs, he⟩
theorem MapI.upd0 {w w' : World} {k : IntKind} {b : Nat} {l : List (Int × Value)} (h : MapI w k b l) (u : Upd no w w') : MapI w' k b l := h.updS u id
theorem MapI.upd1 {g : Nat} {w w' : World} {k : IntKind} {b : Nat} {l : List (Int × Value)} (h : MapI w k b l) (u : Upd (· = g) w w') (hs : b ≠ g) : MapI w' k b l := h.updS u hs
theorem MapI.lt {w : World} {k : IntKind} {b : Nat} {l : List (Int × Value)} (h : MapI w k b l) : b < w.heap.size := by obtain ⟨es, c, hb, _⟩ := h; exact lt_get hb
theorem MapI.apart {w : World} {k : IntKind} {b : Nat} {l : List (Int × Value)} (h : MapI w k b l) {g : Nat} (hg : g = w.heap.size) : b ≠ g := by have := h.lt; omega
def mapK (P : Program) (t : TypeId) : Option (TypeId × IntKind × TypeId) := match P.underlying t with
  | some (.map k e) => (match P.underlying k with | some (.int i) => some (k, i, e) | _ => none)
  | _ => none
theorem mapK_spec {t kt e : TypeId} {i : IntKind} (h : mapK P t = some (kt, i, e)) : P.underlying t = some (.map kt e) ∧ P.underlying kt = some (.int i) := by
  unfold mapK at h
  split at h
  · rename_i k e' hu
    split at h
    · rename_i i' hi; cases h; exact ⟨hu, hi⟩
    · cases h
  · cases h
theorem makeMap_intro {t : TypeId} {k : IntKind} (h : ∀ b w', b = w.heap.size → MapI w' k b [] → w'.heap.size = w.heap.size + 1 → Upd no w w' → K (.map (some b)) w') : opv ((Instr.makeMap t none).run P w) R K := by
  have hr : (Instr.makeMap t none).run P w = .ok (.map (some w.heap.size)) { w with heap := w.heap.push (.map #[] 0) } := by
    simp [Instr.makeMap, Sem.run_bind, Result.andThen]
  rw [hr]
  exact h _ _ rfl ⟨#[], 0, by simp, rfl⟩ (by simp) ⟨rfl, rfl, rfl, by simp, fun k hk _ => by simp [Array.getElem?_push]; omega⟩
theorem findNow_int {k : IntKind} {n : Int} : ∀ (es : List MapEntry) (l : List (Int × Value)) (i : Nat), es.map (fun e => (e.key, e.val)) = l.map (fun p => (Value.int k p.1, p.2)) →
    ∃ r, Instr.findNow (.int k) (.int k n) es i = some r ∧ r.map (·.2) = mget l n ∧ ∀ j v, r = some (j, v) → i ≤ j ∧ (∃ e, es[j - i]? = some e ∧ e.key = .int k n) ∧ ∀ v', ((es.toArray).modify (j - i) fun e => { e with key := .int k n, val := v' }).toList.map (fun e => (e.key, e.val)) = (mset l n v').map fun p => (Value.int k p.1, p.2)
  | [], l, i, h => by
    have : l = [] := by simpa using h.symm
    subst this
    exact ⟨none, rfl, rfl, fun j v hj => by cases hj⟩
  | e :: es, l, i, h => by
    cases l with
    | nil => simp at h
    | cons p l =>
      simp only [List.map_cons, List.cons.injEq, Prod.mk.injEq] at h
      obtain ⟨⟨hk, hv⟩, ht⟩ := h
      by_cases hp : n = p.1
      · subst hp
        refine ⟨some (i, e.val), ?_, ?_, ?_⟩
        · simp [Instr.findNow, Instr.sameNow, hk]
        · simp [mget, hv]
        · rintro j v hj
          cases hj
          refine ⟨Nat.le_refl _, ⟨e, by simp, hk⟩, fun v' => ?_⟩
          simp [mset, ht]
      · obtain ⟨r, h1, h2, h3⟩ := findNow_int (n := n) es l (i + 1) ht
        have hpn : ¬ p.1 = n := fun e => hp e.symm
        refine ⟨r, ?_, ?_, ?_⟩
        · have : (n == p.1) = false := by simp [hp]
          simp [Instr.findNow, Instr.sameNow, hk, this, h1]
        · rw [h2]; simp [mget, hpn]
        · intro j v hj
          obtain ⟨hle, he, hm⟩ := h3 j v hj
          have e1 : j - i = (j - (i + 1)) + 1 := by omega
          rw [e1]
          refine ⟨by omega, by simpa using he, fun v' => ?_⟩
          have := hm v'
          simp only [Array.toList_modify, List.modify_succ_cons, List.map_cons, mset, hpn, if_false, hk, hv] at this ⊢
          rw [this]
theorem Own.not_mapI {B : Nat} {w : World} {e size : Nat} {v : Value} {xs : List Value} {b : Nat} {k : IntKind} {l : List (Int × Value)} (h : Own B w e size v xs) (hb : MapI w k b l) : ∀ k, ownS v k → k ≠ b := by
  obtain ⟨es, c, hb, _⟩ := hb; exact h.not_map hb
theorem lookup_int {t kt e : TypeId} {i : IntKind} {b : Nat} {l : List (Int × Value)} {n : Int} {z : Value} {o : Option Value} (ht : mapK P t = some (kt, i, e)) (hz : zeroC P e = some #[z]) (hz1 : (match P.info? e with | some inf => inf.zero | none => none) = some z)
    (hm : MapI w i b l) (hg : mget l n = o) : (Instr.lookup t (.map (some b)) (.int i n) true).run P w = .ok (.tuple #[o.getD z, .bool o.isSome]) w := by
  obtain ⟨hu, hk⟩ := mapK_spec ht
  obtain ⟨es, c, hb, he⟩ := hm
  obtain ⟨r, h1, h2, _⟩ := findNow_int (n := n) es.toList l 0 he
  have hf := MapKept.run_findKey (w := w) (kt := kt) hk h1
  have hck : ∀ e, (Instr.checkKey e 10000 kt (.int i n)).run P w = .ok () w := fun e => MapKept.run_checkKey hk (by simp [MapKept.IsKey]) e 9999
  rw [hg] at h2
  have hz2 : (zeroValue e).run P w = .ok z w := by
    split at hz1
    · rename_i inf hi
      simp [zeroValue, typeInfo, hi, hz1, Sem.run_bind, Result.andThen]
    · cases hz1
  cases r with
  | none =>
    simp at h2; subst h2
    simp [Instr.lookup, Sem.run_bind, Result.andThen, run_underlying hu, hb, hck, hf, hz2, getObj, Sem.run]
  | some p =>
    obtain ⟨j, v⟩ := p
    simp at h2; subst h2
    simp [Instr.lookup, Sem.run_bind, Result.andThen, run_underlying hu, hb, hck, hf, getObj, Sem.run]
theorem mapUpdate_int {t kt e : TypeId} {i : IntKind} {b : Nat} {l : List (Int × Value)} {n : Int} {v : Value} (ht : mapK P t = some (kt, i, e)) (hm : MapI w i b l)
    (h : ∀ w', MapI w' i b (mset l n v) → w'.heap.size = w.heap.size → Upd (· = b) w w' → K undef w') : opu ((Instr.mapUpdate t (.map (some b)) (.int i n) v).run P w) R K := by
  obtain ⟨hu, hk⟩ := mapK_spec ht
  obtain ⟨es, c, hb, he⟩ := hm
  obtain ⟨r, h1, h2, h3⟩ := findNow_int (n := n) es.toList l 0 he
  have hf := MapKept.run_findKey (w := w) (kt := kt) hk h1
  have hck : ∀ e, (Instr.checkKey e 10000 kt (.int i n)).run P w = .ok () w := fun e => MapKept.run_checkKey hk (by simp [MapKept.IsKey]) e 9999
  have hlt := lt_get hb
  cases r with
  | none =>
    have hr : (Instr.mapUpdate t (.map (some b)) (.int i n) v).run P w = .ok () { w with heap := w.heap.set! b (.map (es.push { key := .int i n, val := v, born := c }) (c + 1)) } := by
      simp [Instr.mapUpdate, Sem.run_bind, Result.andThen, run_underlying hu, hb, hck, hf, getObj, setObj, Sem.run]
    rw [hr]
    refine h _ ⟨_, _, by simp [hlt]; exact ⟨rfl, rfl⟩, ?_⟩ (by simp) ⟨rfl, rfl, rfl, by simp, fun k hk hs => by simp [Array.getElem?_setIfInBounds]; omega⟩
    have hnone : mget l n = none := by simpa using h2.symm
    rw [mset_none hnone]
    simp [he]
  | some p =>
    obtain ⟨j, v0⟩ := p
    obtain ⟨_, ⟨e0, he0, hk0⟩, hj⟩ := h3 j v0 rfl
    have hj := hj v
    simp only [Nat.sub_zero, Array.toArray_toList] at hj
    have hkey : ((es[j]?).map (·.key)).getD (.int i n) = .int i n := by
      have : es[j]? = some e0 := by simpa using he0
      rw [this]; simpa using hk0
    have hr : (Instr.mapUpdate t (.map (some b)) (.int i n) v).run P w = .ok () { w with heap := w.heap.set! b (.map (es.modify j fun e => { e with key := .int i n, val := v }) c) } := by
      simp [Instr.mapUpdate, Sem.run_bind, Result.andThen, run_underlying hu, hb, hck, hf, getObj, setObj, Sem.run, hkey, Instr.keyThatStays, Instr.sameBits]
    rw [hr]
    exact h _ ⟨_, _, by simp [hlt]; first | rfl | exact ⟨rfl, rfl⟩, hj⟩ (by simp) ⟨rfl, rfl, rfl, by simp, fun k hk hs => by simp [Array.getElem?_setIfInBounds]; omega⟩
/-! ### What a row of the statements is told -/
theorem u8_of_wf {n : Int} (h : (Lit.int .u8 n).wf = true) : 0 ≤ n ∧ n ≤ 255 := by
  have h1 : (decide (0 ≤ n) && decide (n ≤ 255)) = true := h
  simpa using h1
theorem rd_of_row {k : IntKind} {w : World} {a : Option Addr} {len cap : Nat} {zs : List Int}
    (h : (a = none ∧ len = 0 ∧ cap = 0 ∧ zs = []) ∨ ∃ x, a = some x ∧ len ≤ cap ∧ cap ≤ maxLen ∧ zs.length = cap ∧ (∀ i, i < zs.length → w.cell? (x.add i) = some (.int k (zs.getD i 0))) ∧ ∀ n ∈ zs, (Lit.int k n).wf = true) :
    ∃ bs, Rd w a (vals k bs) ∧ (∀ n ∈ bs, (Lit.int k n).wf = true) ∧ len = bs.length ∧ len ≤ maxLen := by
  rcases h with ⟨rfl, rfl, rfl, rfl⟩ | ⟨x, rfl, hl, hm, hz, hc, hw⟩
  · exact ⟨[], .inl rfl, (fun n hn => by cases hn), rfl, Nat.zero_le _⟩
  · refine ⟨zs.take len, .inr ⟨x, rfl, fun j hj => ?_⟩, fun n hn => hw n (List.mem_of_mem_take hn), by simp; omega, by omega⟩
    rw [vals_length, List.length_take] at hj
    rw [hc j (by omega)]
    have hj2 : j < zs.length := by omega
    have : (zs.take len)[j]? = some zs[j] := by rw [List.getElem?_take, if_pos (by omega), List.getElem?_eq_getElem hj2]
    rw [vals_at this]
    simp [List.getD, List.getElem?_eq_getElem hj2]
theorem bs_of_wf {bs : List Int} (h : ∀ n ∈ bs, (Lit.int .u8 n).wf = true) : Bs bs := fun n hn => u8_of_wf (h n hn)
end Go.Sh
