/-
  Rows of structs, arithmetic, runes, ranges over functions, for the rules of the shallow forms. No condition.
-/
import Derived.Test.YtjdoakbadehicaaGreatDoorMem
import Derived.Laws.StructEq
import Derived.Laws.Pointers
import Derived.Laws.OwnMore
import Derived.Laws.Cover4
import Derived.Laws.IdiomStrings
import Derived.Laws.Slices
import Derived.Lib.MinMax
import Derived.Lib.SliceRun
import Derived.RangeFuncRecord
import Derived.Deep.AppendLies
namespace Go.Sh
open Go
variable {P : Program} {R : Ending → World → Prop} {K : Value → World → Prop} {w : World}

/-! ### Rows: each element lies in m cells -/
structure Enc {α : Type} (f : α → List Value) (m : Nat) : Prop where
  len : ∀ a, (f a).length = m
  one : ∀ a, ∀ u ∈ f a, u.oneCell' = true
  pos : 0 < m
def rows {α : Type} (f : α → List Value) (l : List α) : List Value := l.flatMap f
section rows
variable {α : Type} {f : α → List Value} {m : Nat} {l k : List α}
theorem rows_nil : rows f [] = [] := rfl
theorem rows_cons (a : α) : rows f (a :: l) = f a ++ rows f l := rfl
theorem rows_append : rows f l ++ rows f k = rows f (l ++ k) := by simp [rows]
theorem rows_len (hf : Enc f m) (l : List α) : (rows f l).length = l.length * m := by
  induction l with
  | nil => simp [rows]
  | cons a l ih => rw [rows_cons, List.length_append, ih, hf.len, List.length_cons, Nat.add_mul]; omega
theorem rows_one (hf : Enc f m) (l : List α) : ∀ u ∈ rows f l, u.oneCell' = true := by
  intro u hu
  obtain ⟨a, _, ha⟩ := List.mem_flatMap.1 hu
  exact hf.one a u ha
theorem rows_take (hf : Enc f m) (l : List α) (n : Nat) : (rows f l).take (n * m) = rows f (l.take n) := by
  induction l generalizing n with
  | nil => simp [rows]
  | cons a l ih =>
    cases n with
    | zero => simp [rows]
    | succ n =>
      rw [rows_cons, List.take_succ_cons, rows_cons, ← ih n, List.take_append, hf.len]
      have : (n + 1) * m - m = n * m := by rw [Nat.add_mul]; omega
      rw [this, List.take_of_length_le (by rw [hf.len, Nat.add_mul]; omega)]
theorem rows_drop (hf : Enc f m) (l : List α) (n : Nat) : (rows f l).drop (n * m) = rows f (l.drop n) := by
  induction l generalizing n with
  | nil => simp [rows]
  | cons a l ih =>
    cases n with
    | zero => simp [rows]
    | succ n =>
      rw [rows_cons, List.drop_succ_cons, ← ih n, List.drop_append, hf.len]
      have : (n + 1) * m - m = n * m := by rw [Nat.add_mul]; omega
      rw [this, List.drop_of_length_le (by rw [hf.len, Nat.add_mul]; omega), List.nil_append]
theorem rows_at (hf : Enc f m) {i : Nat} {x : α} (h : l[i]? = some x) : ((rows f l).drop (i * m)).take m = f x := by
  obtain ⟨hi, rfl⟩ := List.getElem?_eq_some_iff.1 h
  rw [rows_drop hf, List.drop_eq_getElem_cons hi, rows_cons, List.take_append, hf.len, Nat.sub_self, List.take_zero, List.append_nil, List.take_of_length_le (by rw [hf.len]; exact Nat.le_refl _)]
theorem rows_set (hf : Enc f m) {i : Nat} (hi : i < l.length) (x : α) : (rows f l).take (i * m) ++ f x ++ (rows f l).drop (i * m + m) = rows f (l.set i x) := by
  have e : i * m + m = (i + 1) * m := by rw [Nat.add_mul, Nat.one_mul]
  rw [e, rows_take hf, rows_drop hf, List.set_eq_take_append_cons_drop, if_pos hi, ← rows_append, rows_cons, List.append_assoc]
theorem idx_rows {t T len cap : Nat} {k : IntKind} {i : Int} {A : Option Addr} (hf : Enc f m) (hn : slN P t = some m) (hT : aggN P T = some m) (hr : Rd w A (rows f l)) (hl : len = l.length) (h0 : 0 ≤ i) (h1 : i < len)
    (h : ∀ x, l[i.toNat]? = some x → K (.agg (f x).toArray) w) : opv ((Instr.indexAt t (.slice A len cap) (.int k i)).run P w) R fun a w => opv ((Instr.loadAt T a).run P w) R K := by
  have hi : i.toNat < l.length := by omega
  have hx : l[i.toNat]? = some l[i.toNat] := List.getElem?_eq_getElem hi
  exact idx_loadA hn hT hr hf.pos (by rw [rows_len hf, hl]) h0 h1 (rows_at hf hx) (h _ hx)
end rows
/-! ### Own rows, opened -/
theorem Own.at {B : Nat} {w : World} {e size n c : Nat} {A : Option Addr} {xs : List Value} (h : Own B w e size (.slice A n c) xs) (hn : 0 < xs.length) :
    ∃ g, A = some ⟨g, 0, none⟩ ∧ B ≤ g ∧ xs.length = n * size ∧ ∃ cur, w.heap[g]? = some (.cells cur e (0, 0)) ∧ n ≤ c ∧ cur.size = c * size ∧ cur.toList.take (n * size) = xs := by
  obtain ⟨n', hl, h⟩ := h
  rcases h with ⟨hv, rfl⟩ | ⟨g, cap, cur, hv, hb, hg, hc, hm, hs, ht⟩
  · cases hv; simp at hl; subst hl; simp at hn
  · cases hv; exact ⟨g, rfl, hb, hl, cur, hg, hc, hs, ht⟩
theorem Own.ln {B : Nat} {w : World} {e size n c : Nat} {A : Option Addr} {xs : List Value} (h : Own B w e size (.slice A n c) xs) : xs.length = n * size := by
  obtain ⟨n', hl, h⟩ := h
  rcases h with ⟨hv, rfl⟩ | ⟨g, cap, cur, hv, hb, hg, hc, hm, hs, ht⟩
  · cases hv; exact hl
  · cases hv; exact hl
theorem Own.rdS {B : Nat} {w : World} {e size n c : Nat} {A : Option Addr} {xs : List Value} (h : Own B w e size (.slice A n c) xs) : Rd w A xs := by
  obtain ⟨A', len, cap, hv, hl, hr⟩ := h.rd
  cases hv; exact hr
theorem Own.open {B : Nat} {w : World} {e m : Nat} {v : Value} {α : Type} {f : α → List Value} {l : List α} (hf : Enc f m) (h : Own B w e m v (rows f l)) : ∃ A c, v = .slice A l.length c := by
  obtain ⟨A, len, cap, hv, hl, _⟩ := h.rd
  rw [rows_len hf] at hl
  exact ⟨A, cap, by rw [hv, Nat.eq_of_mul_eq_mul_right hf.pos hl]⟩
theorem Own.lt {B : Nat} {w : World} {e size : Nat} {v : Value} {xs : List Value} (h : Own B w e size v xs) : ∀ k, ownS v k → k < w.heap.size := fun k hk => (h.ge hk).2
theorem Own.le_cap {B : Nat} {w : World} {e size n c : Nat} {A : Option Addr} {xs : List Value} (h : Own B w e size (.slice A n c) xs) : n ≤ c := by
  obtain ⟨n', _, h' | ⟨g, cap, cur, hv, _, _, hc, _⟩⟩ := h
  · cases h'.1; exact Nat.le_refl _
  · cases hv; exact hc
theorem Own.geb {B : Nat} {w : World} {e size n c : Nat} {A : Option Addr} {xs : List Value} (h : Own B w e size (.slice A n c) xs) : ∀ k, blkOf A k → B ≤ k ∧ k < w.heap.size := by
  rintro k ⟨a, rfl, rfl⟩
  exact h.ge (k := a.block) rfl
theorem Rd.isSome {w : World} {A : Option Addr} {xs : List Value} (h : Rd w A xs) (hx : 0 < xs.length) : ∃ a, A = some a := by
  rcases h with rfl | ⟨a, rfl, _⟩
  · simp at hx
  · exact ⟨a, rfl⟩
/-- Blocks of different types are different blocks. -/
theorem Own.ne_blk {B : Nat} {w : World} {e size : Nat} {v : Value} {xs : List Value} {b : Nat} {cs : Array Value} {T : TypeId} {fr : Nat × Nat} (h : Own B w e size v xs) (hb : w.heap[b]? = some (.cells cs T fr)) (hT : e ≠ T) : ∀ k, ownS v k → k ≠ b := by
  intro k hk e'
  subst e'
  obtain ⟨n, _, h' | ⟨g, cap, cur, hv, _, hg, _⟩⟩ := h
  · rw [h'.1] at hk; cases hk
  · rw [hv] at hk; cases hk; rw [hb] at hg; cases hg; exact hT rfl
theorem Own.neb {B : Nat} {w : World} {e size n c : Nat} {A : Option Addr} {xs : List Value} {b : Nat} {cs : Array Value} {T : TypeId} {fr : Nat × Nat} (h : Own B w e size (.slice A n c) xs) (hb : w.heap[b]? = some (.cells cs T fr)) (hT : e ≠ T) : ∀ k, blkOf A k → k ≠ b := by
  rintro k ⟨a, rfl, rfl⟩
  exact h.ne_blk hb hT a.block rfl
theorem blk_ne {w : World} {b b' : Nat} {cs cs' : Array Value} {T T' : TypeId} {fr fr' : Nat × Nat} (h : w.heap[b]? = some (.cells cs T fr)) (h' : w.heap[b']? = some (.cells cs' T' fr')) (hT : T ≠ T') : b ≠ b' := by
  intro e; subst e; rw [h] at h'; cases h'; exact hT rfl
theorem Own.not_loop {B : Nat} {w : World} {e size : Nat} {v : Value} {xs : List Value} {b : Nat} {o : Obj} (h : Own B w e size v xs) (hb : w.heap[b]? = some o) (ho : lpB o = true) : ∀ k, ownS v k → k ≠ b := by
  intro k hk e'
  subst e'
  obtain ⟨n, _, h' | ⟨g, cap, cur, hv, _, hg, _⟩⟩ := h
  · rw [h'.1] at hk; cases hk
  · rw [hv] at hk; cases hk; rw [hb] at hg; cases hg; cases ho
theorem Own.not_def {B : Nat} {w : World} {e size : Nat} {v : Value} {xs : List Value} {b : Nat} {d : Option (List Deferred)} (h : Own B w e size v xs) (hb : w.heap[b]? = some (.deferred d)) : ∀ k, ownS v k → k ≠ b := by
  intro k hk e'
  subst e'
  obtain ⟨n, _, h' | ⟨g, cap, cur, hv, _, hg, _⟩⟩ := h
  · rw [h'.1] at hk; cases hk
  · rw [hv] at hk; cases hk; rw [hb] at hg; cases hg
theorem blk_not_loop {w : World} {b b' : Nat} {cs : Array Value} {T : TypeId} {fr : Nat × Nat} {o : Obj} (h : w.heap[b]? = some (.cells cs T fr)) (h' : w.heap[b']? = some o) (ho : lpB o = true) : b ≠ b' := by
  intro e; subst e; rw [h] at h'; cases h'; cases ho
theorem blk_not_def {w : World} {b b' : Nat} {cs : Array Value} {T : TypeId} {fr : Nat × Nat} {d : Option (List Deferred)} (h : w.heap[b]? = some (.cells cs T fr)) (h' : w.heap[b']? = some (.deferred d)) : b ≠ b' := by
  intro e; subst e; rw [h] at h'; cases h'
/-- A store of an element into a row of one's own. -/
theorem store_row {α : Type} {f : α → List Value} {t m g n c B e : Nat} {l : List α} {i : Int} {x : α} {fv : Array Value} (hf : Enc f m) (hn : cellsN P t = some m) (own : Own B w e m (.slice (some ⟨g, 0, none⟩) n c) (rows f l))
    (h0 : 0 ≤ i) (hi : i < l.length) (hv : fv = (f x).toArray)
    (h : ∀ w', Own B w' e m (.slice (some ⟨g, 0, none⟩) n c) (rows f (l.set i.toNat x)) → w'.heap.size = w.heap.size → Upd (ownS (.slice (some ⟨g, 0, none⟩) n c)) w w' → K undef w') :
    opu ((Instr.storeAt t (.pointer (some ⟨g, 0 + i.toNat * m, none⟩)) (.agg fv)).run P w) R K := by
  subst hv
  have hi' : i.toNat < l.length := by omega
  have hpos : 0 < (rows f l).length := by rw [rows_len hf]; exact Nat.mul_pos (by omega) hf.pos
  obtain ⟨g', hg', hB, hl, cur, hcur, hnc, hcs, htk⟩ := own.at hpos
  cases hg'
  have hln : n = l.length := by rw [rows_len hf] at hl; exact (Nat.eq_of_mul_eq_mul_right hf.pos hl).symm
  have hmm : c ≤ maxLen := by
    obtain ⟨n', _, h' | ⟨g2, cap, cur2, hv, _, hg, hc, hm, _⟩⟩ := own
    · cases h'.1
    · cases hv; exact hm
  have him : i.toNat * m + m ≤ n * m := by
    rw [hln]
    have : (i.toNat + 1) * m ≤ l.length * m := Nat.mul_le_mul_right m hi'
    rwa [Nat.add_mul, Nat.one_mul] at this
  have hcm : n * m ≤ c * m := Nat.mul_le_mul_right m hnc
  have hfx : (Value.agg (f x).toArray).cells = (f x).toArray := rfl
  refine store_intro (n := m) hn (by rw [hfx]; simp [hf.len]) (by rw [hfx, Array.all_eq_true']; intro u hu; exact hf.one x u (by simpa using hu)) hcur (by rw [hcs]; omega)
    (cs' := (cur.toList.take (i.toNat * m) ++ f x ++ cur.toList.drop (i.toNat * m + m)).toArray) (by rw [hfx, Nat.zero_add]) fun w' h1 h2 h3 => ?_
  refine h w' ⟨n, by rw [rows_len hf, List.length_set, hln], .inr ⟨g, c, _, rfl, hB, h1, hnc, hmm, ?_, ?_⟩⟩ h2 (h3.mono (Nat.le_refl _) fun k _ hk => by cases hk; rfl)
  · have hcl : cur.toList.length = c * m := by simpa using hcs
    have e3 : (cur.toList.take (i.toNat * m)).length = i.toNat * m := by rw [List.length_take, hcl]; omega
    rw [List.size_toArray, List.length_append, List.length_append, e3, hf.len, List.length_drop, hcl]
    omega
  · have e1 : (cur.toList.take (i.toNat * m)) = (rows f l).take (i.toNat * m) := by
      rw [← htk, List.take_take, Nat.min_eq_left (by omega)]
    have e2 : (cur.toList.drop (i.toNat * m + m)).take (n * m - (i.toNat * m + m)) = (rows f l).drop (i.toNat * m + m) := by
      rw [← htk, List.drop_take]
    have l1 : ((rows f l).take (i.toNat * m)).length = i.toNat * m := by rw [List.length_take, rows_len hf, ← hln]; omega
    show ((cur.toList.take (i.toNat * m) ++ f x ++ cur.toList.drop (i.toNat * m + m)).toArray.toList.take (n * m)) = _
    simp only []
    rw [← rows_set hf hi' x, e1, List.take_append, List.take_of_length_le (by rw [List.length_append, l1, hf.len]; omega), List.length_append, l1, hf.len, e2]
/-- What is appended, to a row of one's own. -/
theorem app_introA {t ty e size bytes : Nat} {B m c : Nat} {v : Value} {A : Option Addr} {xs news : List Value} (ht : apN P t = some (e, size, bytes)) (hown : Own B w e size v xs) (hr : Rd w A news) (hl : news.length = m * size)
    (h1 : ∀ u ∈ news, u.oneCell' = true) (hbytes : (xs.length + news.length) * (bytes + 1) ≤ 140737488355328) (hB : B ≤ w.heap.size)
    (h : ∀ v' w', Own B w' e size v' (xs ++ news) → (∀ k, ownS v' k → ownS v k ∨ w.heap.size ≤ k) → Upd (ownS v) w w' → K v' w') : opv ((Builtin.append_ #[t, t] ty #[v, .slice A m c]).run P w) R K := by
  unfold apN at ht
  split at ht
  · rename_i e' hu
    split at ht
    · rename_i i hi
      split at ht
      · rename_i z hz
        split at ht
        · rename_i s' hzs hsz
          cases ht
          obtain ⟨n, hown⟩ := hown
          have hzs := Nat.eq_of_beq_eq_true hzs
          have hpos : 0 < i.size := by omega
          have hxl := hown.1
          have hxn : n ≤ xs.length := by rw [hxl]; exact Nat.le_mul_of_pos_right _ hpos
          have hmn : m ≤ news.length := by rw [hl]; exact Nat.le_mul_of_pos_right _ hpos
          have hsum : n + m ≤ xs.length + news.length := by omega
          have hb1 : (n + m) * i.bytes ≤ (xs.length + news.length) * (i.bytes + 1) := Nat.mul_le_mul hsum (by omega)
          have hb2 : (n + m) * 1 ≤ (xs.length + news.length) * (i.bytes + 1) := Nat.mul_le_mul hsum (by omega)
          rw [Nat.mul_one] at hb2
          have key : ∃ v' w', (Builtin.append_ #[t, t] ty #[v, .slice A m c]).run P w = .ok v' w' ∧ w'.ownsRow B e i.size v' (n + m) (xs ++ news) ∧ w.grownBy w' v.ownBlock ∧ (v'.ownBlock = v.ownBlock ∨ v'.ownBlock = some w.heap.size) := by
            cases A with
            | some a =>
              have hnews : ∀ j u, news[j]? = some u → w.cell? (a.add j) = some u := by
                intro j u hj
                rcases hr with rfl | ⟨a', ha, hc⟩
                · simp at hj
                · cases ha
                  rw [hc j (by have := List.getElem?_eq_some_iff.1 hj; exact this.1)]; exact hj
              obtain ⟨v', w', r1, r2, r3, _, r5⟩ := run_append_own_at (P := P) w B t ty e i z i.size i.bytes hu hi hz rfl rfl hzs hpos v n xs hown a m c news hl hnews h1 (by simp only [maxLen]; omega) (by omega) hB
              exact ⟨v', w', r1, r2, r3, r5⟩
            | none =>
              have hn0 : news = [] := by
                rcases hr with h | ⟨a', ha, _⟩
                · exact h
                · cases ha
              subst hn0
              have hm0 : m = 0 := by
                rcases Nat.eq_zero_or_pos m with h | h
                · exact h
                · have := Nat.mul_pos h hpos; simp at hl; omega
              subst hm0
              refine ⟨v, w, ?_, by simpa using hown, ⟨rfl, rfl, rfl, Nat.le_refl _, fun k _ _ => rfl⟩, .inl rfl⟩
              rcases hown.2 with ⟨rfl, rfl⟩ | ⟨g, cap, cur, rfl, hb, hg, hc, hm, hs, hta⟩
              · simp [Builtin.append_, Sem.run_bind, Result.andThen, run_underlying hu, sizeOf, typeInfo, hi, Builtin.lenOf, Builtin.firstCells]
              · simp [Builtin.append_, Sem.run_bind, Result.andThen, run_underlying hu, sizeOf, typeInfo, hi, Builtin.lenOf, Builtin.firstCells, hc, storeCells]
          obtain ⟨v', w', r1, r2, r3, r5⟩ := key
          refine opv_run r1 (h v' w' ⟨_, r2⟩ (fun k hk => by
            rcases r5 with r5 | r5
            · exact .inl (by have h0 : some k = v'.ownBlock := hk; show some k = v.ownBlock; rw [h0, r5])
            · right; have h0 : some k = v'.ownBlock := hk; rw [r5] at h0; cases h0; exact Nat.le_refl _) ⟨r3.os, r3.tape, r3.output, r3.size, fun k hk hs => r3.block k hk (fun e => hs e)⟩)
        · cases ht
      · cases ht
    · cases ht
  · cases ht
theorem ap_rd {S' : World} {v v' : Value} {A : Option Addr} {xs : List Value} (old : xs = [] ∨ ∀ k, blkOf A k → ¬ ownS v k) (lt : Rd S' A xs) (hA : ∀ k, ownS v' k → ownS v k ∨ S'.heap.size ≤ k) : xs = [] ∨ ∀ k, blkOf A k → ¬ ownS v' k := by
  rcases old with h | h
  · exact .inl h
  · rcases lt.lt with h2 | h2
    · exact .inl h2
    · exact .inr fun k hk hs => (hA k hs).elim (h k hk) (fun h3 => by have := h2 k hk; omega)
theorem ap_own {S' : World} {B e s : Nat} {u v v' : Value} {xs : List Value} (old : ∀ k, ownS u k → ¬ ownS v k) (ou : Own B S' e s u xs) (hA : ∀ k, ownS v' k → ownS v k ∨ S'.heap.size ≤ k) : ∀ k, ownS u k → ¬ ownS v' k :=
  fun k hk hs => (hA k hs).elim (old k hk) (fun h3 => by have := (ou.ge hk).2; omega)
theorem ap_blk {S' : World} {v v' : Value} {b : Nat} {o : Obj} (old : ¬ ownS v b) (hb : S'.heap[b]? = some o) (hA : ∀ k, ownS v' k → ownS v k ∨ S'.heap.size ≤ k) : ¬ ownS v' b :=
  fun hs => (hA b hs).elim old (fun h3 => by have := lt_get hb; omega)
theorem own_range {B : Nat} {w : World} {e : Nat} {v : Value} {K : IntKind} {f : Nat → Int} {k : Nat} (h : Own B w e 1 v (vals K ((List.range k).map f) ++ [.int K (f k)])) : Own B w e 1 v (vals K ((List.range (k + 1)).map f)) := by
  simpa [List.range_succ, vals] using h
/-! ### Structs that are compared -/
theorem eqGuard_agg {c : Bool} {op : BinOp} {t : TypeId} {xs ys : Array Value} (hm : P.eqGuardType P.depth t = false) : (binE c op t (.agg xs) (.agg ys)).run P w = (binOp op t (.agg xs) (.agg ys)).run P w := by
  unfold binE
  rw [Sem.run_bind, run_eqGuard_agg w op t _ _ xs ys hm]
  rfl
theorem eqA {c : Bool} {t : TypeId} {xs ys : Array Value} {b : Bool} (hm : P.eqGuardType P.depth t = false) (he : ∀ w : World, (Op.equalIn 10000 t (.agg xs) (.agg ys)).run P w = .ok b w) : (binE c .eql t (.agg xs) (.agg ys)).run P w = .ok (.bool b) w := by
  rw [eqGuard_agg hm, run_eql_struct, he]; rfl
theorem neA {c : Bool} {t : TypeId} {xs ys : Array Value} {b : Bool} (hm : P.eqGuardType P.depth t = false) (he : ∀ w : World, (Op.equalIn 10000 t (.agg xs) (.agg ys)).run P w = .ok b w) : (binE c .neq t (.agg xs) (.agg ys)).run P w = .ok (.bool (!b)) w := by
  rw [eqGuard_agg hm, run_neq_struct, he]; rfl
/-- A struct's fields, each of one cell, none without a name: types and places. -/
def plainF (P : Program) : List Field → Option (List (Nat × Nat))
  | [] => some []
  | f :: fs => match decide (f.name = "_"), isOne P f.type, plainF P fs with | false, true, some l => some ((f.type, f.offset) :: l) | _, _, _ => none
theorem part_one {t o : Nat} {xs : Array Value} {a : Value} (ht : isOne P t = true) (ha : xs[o]? = some a) : (part t xs o).run P w = .ok a w := by
  unfold isOne at ht
  split at ht
  · rename_i d hd
    simp only [part, isAgg, Sem.run_bind, run_underlying hd, Result.andThen, Sem.run_pure]
    cases d <;> simp [aggD] at ht <;> simp [ha]
  · cases ht
theorem eqF_cons {d : Nat} {xs ys : Array Value} {f : Field} {fs : List Field} {t o : Nat} {l : List (Nat × Nat)} {a b : Value} {r : Bool} (h : plainF P (f :: fs) = some ((t, o) :: l)) (ha : xs[o]? = some a) (hb : ys[o]? = some b)
    (he : ∀ w : World, (Op.equalIn d t a b).run P w = .ok r w) : plainF P fs = some l ∧ (Op.eqFields d xs ys (f :: fs)).run P w = if r = true then (Op.eqFields d xs ys fs).run P w else .ok false w := by
  simp only [plainF] at h
  split at h
  · rename_i l' hn h1 hl
    simp only [Option.some.injEq, List.cons.injEq, Prod.mk.injEq] at h
    obtain ⟨⟨rfl, rfl⟩, rfl⟩ := h
    refine ⟨hl, ?_⟩
    have hn' : f.name ≠ "_" := of_decide_eq_false hn
    simp only [Op.eqFields, Sem.run_bind, Sem.run_ite, if_pos hn', part_one h1 ha, part_one h1 hb, Result.andThen, he]
    cases r <;> simp
  · cases h
theorem eqF_nil {d : Nat} {xs ys : Array Value} : (Op.eqFields d xs ys []).run P w = .ok true w := rfl
theorem plain_cons {fs : List Field} {x : Nat × Nat} {l : List (Nat × Nat)} (h : plainF P fs = some (x :: l)) : ∃ f fs', fs = f :: fs' := by
  cases fs with
  | nil => simp [plainF] at h
  | cons f fs => exact ⟨f, fs, rfl⟩
theorem plain_nil {fs : List Field} (h : plainF P fs = some []) : fs = [] := by
  cases fs with
  | nil => rfl
  | cons f fs =>
    simp only [plainF] at h
    split at h
    · simp at h
    · cases h
/-! ### Integers -/
theorem rem_pos (t : TypeId) (k : IntKind) {x y : Int} (h : 0 < y) (hk : k.wrap (x.tmod y) = x.tmod y) : (binOp .rem t (.int k x) (.int k y)).run P w = .ok (.int k (x.tmod y)) w := by
  have : ¬ y = 0 := by omega
  simp [go_sem, binOp, Op.intDiv, this, hk]
theorem quo_pos (t : TypeId) (k : IntKind) {x y : Int} (h : 0 < y) (hk : k.wrap (x.tdiv y) = x.tdiv y) : (binOp .quo t (.int k x) (.int k y)).run P w = .ok (.int k (x.tdiv y)) w := by
  have : ¬ y = 0 := by omega
  simp [go_sem, binOp, Op.intDiv, this, hk]
/-- Of numbers that are not negative. -/
theorem remN (t : TypeId) {x y : Int} (hx : 0 ≤ x) (hx2 : x ≤ 9223372036854775807) (h : 0 < y) : (binOp .rem t (.int .i64 x) (.int .i64 y)).run P w = .ok (.int .i64 (x % y)) w := by
  have e : x.tmod y = x % y := Int.tmod_eq_emod_of_nonneg hx
  have h1 := Int.emod_nonneg x (by omega : y ≠ 0)
  have h2 : x % y ≤ x := by
    have hd := Int.mul_nonneg (Int.le_of_lt h) (Int.ediv_nonneg hx (Int.le_of_lt h))
    have := Int.emod_def x y
    omega
  rw [rem_pos t .i64 h (by rw [e]; exact wrap_i64 (by omega) (by omega)), e]
/-- By a number that is not negative, whatever is divided. -/
theorem remT (t : TypeId) {x y : Int} (h : 0 < y) (h2 : y ≤ 9223372036854775807) : (binOp .rem t (.int .i64 x) (.int .i64 y)).run P w = .ok (.int .i64 (x.tmod y)) w := by
  have h3 := Int.tmod_lt_of_pos x h
  have h4 : -y < x.tmod y := Int.lt_tmod_of_pos x h
  exact rem_pos t .i64 h (wrap_i64 (by omega) (by omega))
theorem minI (ts : Array TypeId) (t : TypeId) (k : IntKind) (x y : Int) : (Builtin.min_ ts t #[.int k x, .int k y]).run P w = .ok (.int k (min x y)) w := Lib.run_min_ints w ts t k k x y
theorem maxI (ts : Array TypeId) (t : TypeId) (k : IntKind) (x y : Int) : (Builtin.max_ ts t #[.int k x, .int k y]).run P w = .ok (.int k (max x y)) w := Lib.run_max_ints w ts t k k x y
theorem negI (t : Bool) (k : IntKind) (x : Int) : (Op.unary .neg (.int k x)).run P w = .ok (.int k (k.wrap (-x))) w := by simp [go_sem, Op.unary]
/-! ### A range over a function -/
theorem Chg.upd {l : Nat} {w w' : World} (h : Chg l w w') : Upd (· = l) w w' := by
  obtain ⟨o, rfl⟩ := h
  exact ⟨rfl, rfl, rfl, by simp, fun k _ hk => by simp only []; rw [Array.getElem?_setIfInBounds_ne (fun e => hk e.symm)]⟩
theorem Chg.size {l : Nat} {w w' : World} (h : Chg l w w') : w'.heap.size = w.heap.size := by obtain ⟨o, rfl⟩ := h; simp
theorem midR_i {l : Nat} {Rdy Bsy : Obj} {C : World → Prop} (hl : w.heap[l]? = some Rdy) (h : ∀ w', w'.heap[l]? = some Bsy → w'.heap.size = w.heap.size → Upd (· = l) w w' → C w') : midR l Rdy Bsy C w :=
  ⟨hl, fun w' hc hb => h w' hb hc.size hc.upd⟩
section fin
variable {l : Nat} {Rdy Bsy : Obj} {Dn : Nat → Obj} {Q : Bool → World → Prop}
theorem finN (hl : w.heap[l]? = some Bsy) (h : ∀ w', w'.heap[l]? = some Rdy → w'.heap.size = w.heap.size → Upd (· = l) w w' → Q true w') : finR l Rdy Bsy Dn Q .normal w :=
  ⟨hl, fun w' hc hb => h w' hb hc.size hc.upd⟩
theorem finT (hl : w.heap[l]? = some Bsy) (h : ∀ w', w'.heap[l]? = some (Dn 0) → w'.heap.size = w.heap.size → Upd (· = l) w w' → Q false w') : finR l Rdy Bsy Dn Q .ret w :=
  ⟨hl, fun w' hc hb => h w' hb hc.size hc.upd⟩
theorem finE {i : Nat} (hl : w.heap[l]? = some Bsy) (h : ∀ w', w'.heap[l]? = some (Dn (i + 1)) → w'.heap.size = w.heap.size → Upd (· = l) w w' → Q false w') : finR l Rdy Bsy Dn Q (.exit i) w :=
  ⟨hl, fun w' hc hb => h w' hb hc.size hc.upd⟩
end fin
theorem rangeF_i {gf np : Nat} {first lb : Array Value} {rnd : Nat → List Value → World → ((World → Prop) → World → Prop) → (Exit → World → Prop) → Prop} {kn : Nat → World → Prop} {kx : List (Nat × (Nat → World → Prop))}
    (hok : calleeOk P gf = true)
    (h : ∀ (w1 : World) (l D : Nat) (Rdy Bsy : Obj) (Dn : Nat → Obj) (y : Value), D = w.heap.size → l = D + 1 → w1.heap[D]? = some (.deferred (some [])) → w1.heap[l]? = some Rdy → lpB Rdy = true → lpB Bsy = true → (∀ i, lpB (Dn i) = true) →
      w1.heap.size = D + 2 → Upd no w w1 →
      (∀ xs w2 (Q : Bool → World → Prop), xs.length = np → w2.heap[l]? = some Rdy → rnd l xs w2 (midR l Rdy Bsy) (finR l Rdy Bsy Dn Q) →
        CallsV P y xs.toArray w2 fun e w' => match e with | .returned (.bool b) => Q b w' | _ => False) →
      Calls P gf (first ++ #[y] ++ lb) w1 fun e w2 => (∃ v, e = .returned v) ∧
        ((w2.heap[l]? = some Rdy ∧ ∀ w3, w3.heap.size = w2.heap.size → Upd (· = l) w2 w3 → kn D w3) ∨ ∃ i k, (i, k) ∈ kx ∧ w2.heap[l]? = some (Dn i) ∧ ∀ w3, w3.heap.size = w2.heap.size → Upd (· = l) w2 w3 → k D w3)) :
    rangeF P (.func (.func gf) first lb) np w rnd kn kx := by
  refine ⟨hok, fun w1 l D Rdy Bsy Dn y hD hl hb hs hd hr h1 h2 h3 hy => ?_⟩
  refine (h w1 l D Rdy Bsy Dn y hD hl hd hr h1 h2 h3 hs (Fr.of_below hb) hy).mono ?_
  rintro e w2 ⟨hv, h4 | ⟨i, k, hm, h5, h6⟩⟩
  · exact ⟨hv, .inl ⟨h4.1, fun w3 hc => h4.2 w3 hc.size hc.upd⟩⟩
  · exact ⟨hv, .inr ⟨i, k, hm, h5, fun w3 hc => h6 w3 hc.size hc.upd⟩⟩
theorem rangeN_i {gf np l0 : Nat} {first lb : Array Value} {rnd : Nat → List Value → World → ((World → Prop) → World → Prop) → (Exit → World → Prop) → Prop} {kn : World → Prop} {kx : List (Nat × (World → Prop))} {o0 : Obj}
    (hok : calleeOk P gf = true) (h0 : w.heap[l0]? = some o0) (hb0 : lpB o0 = true)
    (h : ∀ (w1 : World) (l : Nat) (Rdy Bsy : Obj) (Dn : Nat → Obj) (y : Value), l = w.heap.size → w1.heap[l]? = some Rdy → lpB Rdy = true → lpB Bsy = true → (∀ i, lpB (Dn i) = true) →
      w1.heap.size = l + 1 → Upd no w w1 →
      (∀ xs w2 (Q : Bool → World → Prop), xs.length = np → w2.heap[l]? = some Rdy → rnd l xs w2 (midR l Rdy Bsy) (finR l Rdy Bsy Dn Q) →
        CallsV P y xs.toArray w2 fun e w' => match e with | .returned (.bool b) => Q b w' | _ => False) →
      Calls P gf (first ++ #[y] ++ lb) w1 fun e w2 => (∃ v, e = .returned v) ∧
        ((w2.heap[l]? = some Rdy ∧ ∀ w3, w3.heap.size = w2.heap.size → Upd (· = l) w2 w3 → kn w3) ∨ ∃ i k, (i, k) ∈ kx ∧ w2.heap[l]? = some (Dn i) ∧ ∀ w3, w3.heap.size = w2.heap.size → Upd (· = l) w2 w3 → k w3)) :
    rangeN P (.func (.func gf) first lb) np l0 w rnd kn kx := by
  have hr0 : ∃ r0, w.heap[l0]? = some (.loop r0) := by
    cases o0 with
    | loop r => exact ⟨r, h0⟩
    | _ => cases hb0
  refine ⟨hok, hr0, fun w1 l Rdy Bsy Dn y hl hb hs hr h1 h2 h3 hy => ?_⟩
  refine (h w1 l Rdy Bsy Dn y hl hr h1 h2 h3 hs (Fr.of_below hb) hy).mono ?_
  rintro e w2 ⟨hv, h4 | ⟨i, k, hm, h5, h6⟩⟩
  · exact ⟨hv, .inl ⟨h4.1, fun w3 hc => h4.2 w3 hc.size hc.upd⟩⟩
  · exact ⟨hv, .inr ⟨i, k, hm, h5, fun w3 hc => h6 w3 hc.size hc.upd⟩⟩
theorem leave1 {D : Nat} {K : World → Prop} (h : w.heap[D]? = some (.deferred (some []))) (hk : ∀ w', w'.heap.size = w.heap.size → Upd (· = D) w w' → K w') : leaveM (mkD (mkV D undef)) w K := by
  rw [mkD_mkV]
  exact ⟨h, fun w' hc => hk w' hc.size hc.upd⟩
theorem CallsV.mono {f : Value} {args : Array Value} {R R' : Ending → World → Prop} (h : CallsV P f args w R) (hr : ∀ e w', R e w' → R' e w') : CallsV P f args w R' := by
  cases f with
  | func g first cap =>
    cases g with
    | func g => exact ⟨h.1, Calls.mono h.2 hr⟩
    | yield l =>
      obtain ⟨h1, h2, fn, tmps, asn, body, hy, h3⟩ := h
      exact ⟨h1, h2, fn, tmps, asn, body, hy, h3.mono hr⟩
    | _ => exact False.elim h
  | _ => exact False.elim h
theorem callY_i {f : Value} {args : Array Value} {D : Value → World → Prop} (hc : CallsV P f args w fun e w' => ∃ v, e = .returned v ∧ D v w') (h : ∀ v w', D v w' → K v w') : callY P f args w R K :=
  hc.mono fun e w' he => by obtain ⟨v, he, hd⟩ := he; rw [he]; exact h v w' hd
/-- What a round's end says to the iterator: on, or no more. -/
def yQ (A B : World → Prop) : Bool → World → Prop
  | true => A
  | false => B
def CallsYd (P : Program) (y : Value) (args : Array Value) (w : World) (A B : World → Prop) : Prop := CallsV P y args w fun e w' => match e with | .returned (.bool b) => yQ A B b w' | _ => False
theorem callYd_i {f : Value} {args : Array Value} {A B : World → Prop} (hc : CallsYd P f args w A B) (ht : ∀ w', A w' → K (.bool true) w') (hf : ∀ w', B w' → K (.bool false) w') : callY P f args w R K := by
  refine CallsV.mono hc fun e w' he => ?_
  cases e with
  | returned v =>
    cases v with
    | bool b => cases b; exact hf w' he; exact ht w' he
    | _ => exact False.elim he
  | panicked c => exact False.elim he
  | outgrown => exact False.elim he
/-! ### Regions that draw, where a row of one's own is written -/
theorem movesS (S : Nat → Prop) : Moves (Upd S) := ⟨fun w => Fr.refl _ _ _, fun {a b c} h k => h.go k (fun _ _ h => h), fun h => Fr.of_ext h⟩
theorem Fr.any {S : Nat → Prop} {B : Nat} {a b : World} (h : Fr no B a b) : Fr S B a b := h.mono (Nat.le_refl _) (fun _ _ h => h.elim)
theorem drawn_S {S : Nat → Prop} {A : (World → World → Prop) → World → Prop} (h : ∀ w1, Upd no w w1 → A (Upd S) w1) : drawn w A := ⟨Upd S, movesS S, h _ (Upd.drawn w)⟩
theorem lop_i {T : World → World → Prop} {op : World → (Value → World → Prop) → Prop} (h : op w fun v w' => T w w' ∧ K v w') : lop T w op K := h
section
variable {T : World → World → Prop} {Q : Value → Prop}
theorem qidx {α : Type} {f : α → List Value} {l : List α} {m t U len cap : Nat} {k' : IntKind} {i : Int} {A : Option Addr} (hf : Enc f m) (hn : slN P t = some m) (hT : aggN P U = some m) (hr : ∀ w', T w w' → Rd w' A (rows f l)) (hw : T w w) (hl : len = l.length) (h0 : 0 ≤ i) (h1 : i < len)
    (h : ∀ x, l[i.toNat]? = some x → Q (.agg (f x).toArray)) : qop T w (fun w K => opv ((Instr.indexAt t (.slice A len cap) (.int k' i)).run P w) noR K) fun a => qop T w (fun w K => opv ((Instr.loadAt U a).run P w) noR K) Q := by
  have hi : i.toNat < l.length := by omega
  have hx : l[i.toNat]? = some l[i.toNat] := List.getElem?_eq_getElem hi
  have hpos : 0 < (rows f l).length := by rw [rows_len hf]; exact Nat.mul_pos (by omega) hf.pos
  have him : i.toNat * m + m ≤ (rows f l).length := by
    rw [rows_len hf]
    have : (i.toNat + 1) * m ≤ l.length * m := Nat.mul_le_mul_right m hi
    rwa [Nat.add_mul, Nat.one_mul] at this
  rcases hr w hw with he | ⟨a, rfl, _⟩
  · rw [he] at hpos; simp at hpos
  · refine qop_run (fun w' _ => index_sl (n := m) hn h0 h1) (qop_run (fun w' hw' => load_aggA (n := m) hT (by simp [hf.len]) ?_) (h _ hx))
    rcases hr w' hw' with he | ⟨a', ha, hc⟩
    · rw [he] at hpos; simp at hpos
    · cases ha
      intro j hj
      rw [add_add, hc _ (by omega), ← rows_at hf hx]
      simp [List.getElem?_take, hj]
theorem qidx1 {t U len cap : Nat} {k k' : IntKind} {i : Int} {A : Option Addr} {xs : List Int} (hn : slN P t = some 1) (hT : isOne P U = true) (hr : ∀ w', T w w' → Rd w' A (vals k xs)) (hw : T w w) (hl : len = xs.length) (h0 : 0 ≤ i) (h1 : i < len)
    (h : ∀ x, xs[i.toNat]? = some x → Q (.int k x)) : qop T w (fun w K => opv ((Instr.indexAt t (.slice A len cap) (.int k' i)).run P w) noR K) fun a => qop T w (fun w K => opv ((Instr.loadAt U a).run P w) noR K) Q := by
  have hi : i.toNat < xs.length := by omega
  have hx : xs[i.toNat]? = some xs[i.toNat] := List.getElem?_eq_getElem hi
  have hpos : 0 < (vals k xs).length := by rw [vals_length]; omega
  rcases hr w hw with he | ⟨a, rfl, _⟩
  · rw [he] at hpos; simp at hpos
  · refine qop_run (fun w' _ => index_sl (n := 1) hn h0 h1) (qop_run (fun w' hw' => load_cell hT ?_) (h _ hx))
    rcases hr w' hw' with he | ⟨a', ha, hc⟩
    · rw [he] at hpos; simp at hpos
    · cases ha
      rw [Nat.mul_one, hc _ (by rw [vals_length]; omega)]
      exact vals_at hx
theorem qop_b {s : Sem Value} {b : Bool} (hr : ∀ w', T w w' → s.run P w' = .ok (.bool b) w') (ht : b = true → Q (.bool true)) (hf : b = false → Q (.bool false)) : qop T w (fun w K => opv (s.run P w) noR K) Q :=
  qop_run hr (by cases b; exact hf rfl; exact ht rfl)
theorem qpick_b {a b : Value} {c : Bool} (h : Q (if c then a else b)) : qop T w (fun w K => pick (.bool c) a b w K) Q := by
  cases c
  · exact qpickf h
  · exact qpickt h
end
theorem opv_b {r : Result Value} {b : Bool} {w' : World} (h : r = .ok (.bool b) w') (ht : b = true → K (.bool true) w') (hf : b = false → K (.bool false) w') : opv r R K := by
  rw [h]; cases b; exact hf rfl; exact ht rfl
theorem cap_sl {t ty : TypeId} (hu : isSl P t = true) (a : Option Addr) (len cap : Nat) : (Builtin.cap_ #[t] ty #[.slice a len cap]).run P w = .ok (.int .i64 cap) w := by
  unfold isSl at hu
  split at hu
  · rename_i e hd; simp [Builtin.cap_, Sem.run_bind, Result.andThen, run_underlying hd, goInt]
  · cases hu
theorem mkF (fn : Fn) (a b : Array Value) : (Instr.makeFunc fn a b).run P w = .ok (.func fn a b) w := rfl
/-! ### Making, clearing, slicing -/
theorem repL_rows {α : Type} {f : α → List Value} (z : α) : ∀ n : Nat, repL (f z) n = rows f (List.replicate n z)
  | 0 => rfl
  | n + 1 => by rw [repL, List.replicate_succ, rows_cons, repL_rows z n]
theorem made_rows {α : Type} {f : α → List Value} {m : Nat} (hf : Enc f m) (z : α) (N : Nat) : (madeCells (f z).toArray (N * m)).toList = rows f (List.replicate N z) := by
  have h := reps_eq (f z).toArray N
  have hm := hf.len z
  rw [← repL_rows]
  rw [show (f z).toArray.size = m by simpa using hm] at h
  rw [← h]
  have hp := hf.pos
  by_cases h0 : N * m = 0
  · rw [h0, if_pos rfl]; simp [reps, madeCells]
  · rw [if_neg h0]; rfl
theorem makeRows {α : Type} {f : α → List Value} {m t e bytes : Nat} {z : α} {n : Int} {k : IntKind} (hf : Enc f m) (ht : apN P t = some (e, m, bytes)) (hz : zeroC P e = some (f z).toArray) (h0 : 0 ≤ n) (hn : n * (bytes + 1) ≤ 16777216)
    (h : ∀ b w', b = w.heap.size → Own w.heap.size w' e m (.slice (some ⟨b, 0, none⟩) n.toNat n.toNat) (rows f (List.replicate n.toNat z)) → w'.heap.size = w.heap.size + 1 → Upd no w w' → K (.slice (some ⟨b, 0, none⟩) n.toNat n.toNat) w') :
    opv ((Instr.makeSlice t (.int k n) (.int k n)).run P w) R K := by
  unfold apN at ht
  split at ht
  · rename_i e' hu
    split at ht
    · rename_i i hi
      split at ht
      · rename_i zz hzz
        split at ht
        · rename_i s' hzs hsz
          cases ht
          have hzc : zz.cells = (f z).toArray := by
            unfold zeroC at hz
            simpa [hi, hzz] using hz
          have hb0 : (0 : Int) ≤ n * i.bytes := Int.mul_nonneg h0 (by omega)
          have hb1 : n * ((i.bytes : Int) + 1) = n * i.bytes + n := by rw [Int.mul_add, Int.mul_one]
          have hr := run_make (P := P) w t e i zz hu hi hzz k k n n h0 (Int.le_refl _) (by rw [Int.mul_comm]; omega) (by omega)
          refine opv_run hr (h _ _ rfl ?_ (by simp) ⟨rfl, rfl, rfl, by simp, fun k hk _ => RowKit.Below.heap_alloc w _ k hk⟩)
          rw [hzc]
          refine Own.of_block (n := n.toNat) ?_ (Nat.le_refl _) (by rw [rows_len hf, List.length_replicate]) (by simp only [maxLen]; omega)
          rw [← made_rows hf]
          simpa using World.alloc_heap_new w (.cells (madeCells (f z).toArray (n.toNat * i.size)) e)
        · cases ht
      · cases ht
    · cases ht
  · cases ht
theorem clear_rows {α : Type} {f : α → List Value} {m t e ty bytes c B : Nat} {A : Option Addr} {l : List α} {z : α} (hf : Enc f m) (ht : apN P t = some (e, m, bytes)) (hz : zeroC P e = some (f z).toArray) (own : Own B w e m (.slice A l.length c) (rows f l))
    (h : ∀ w', Own B w' e m (.slice A l.length c) (rows f (List.replicate l.length z)) → Upd (ownS (.slice A l.length c)) w w' → K (.tuple #[]) w') :
    opv ((Builtin.clear_ #[t] ty #[.slice A l.length c]).run P w) R K := by
  unfold apN at ht
  split at ht
  · rename_i e' hu
    split at ht
    · rename_i i hi
      split at ht
      · rename_i zz hzz
        split at ht
        · rename_i s' hzs hsz
          cases ht
          have hzc : zz.cells = (f z).toArray := by
            unfold zeroC at hz
            simpa [hi, hzz] using hz
          by_cases hl : l = []
          · subst hl
            refine opv_run (v := .tuple #[]) (w' := w) ?_ (h w own (Fr.refl _ _ _))
            cases A <;> simp [Builtin.clear_, Sem.run_bind, Result.andThen, run_underlying hu]
          · have hpos : 0 < l.length := List.length_pos_iff.2 hl
            obtain ⟨g, rfl, hB, hln, cur, hcur, hnc, hcs, htk⟩ := own.at (by rw [rows_len hf]; exact Nat.mul_pos hpos hf.pos)
            have hzl : (Builtin.zeroCells (f z).toArray l.length).toList = rows f (List.replicate l.length z) := by
              rw [← made_rows hf]
              have hm := hf.len z
              simp [Builtin.zeroCells, madeCells, hm]
            have hrl : (rows f (List.replicate l.length z)).length = l.length * i.size := by rw [rows_len hf, List.length_replicate]
            have hle : l.length * i.size ≤ c * i.size := Nat.mul_le_mul_right _ hnc
            have hst := run_storeCells_at (P := P) g 0 e (rows f (List.replicate l.length z)) 0 cur w hcur (by rw [hrl, hcs]; omega) (fun x hx => rows_one hf _ x hx)
            simp only [Nat.add_zero, hrl, Nat.zero_add, List.take_zero, List.nil_append] at hst
            obtain ⟨mm, hmm⟩ : ∃ mm, l.length = mm + 1 := ⟨l.length - 1, by omega⟩
            have hrun : (Builtin.clear_ #[t] ty #[.slice (some ⟨g, 0, none⟩) l.length c]).run P w = .ok (.tuple #[]) (w.setRow g ((rows f (List.replicate l.length z) ++ cur.toList.drop (l.length * i.size)).toArray)) := by
              have hzv : (zeroValue e).run P w = .ok zz w := by simp [zeroValue, typeInfo, hi, hzz, Sem.run_bind, Result.andThen]
              rw [hmm] at hzl hst ⊢
              simp [Builtin.clear_, Sem.run_bind, Result.andThen, run_underlying hu, hzv, hzc, hzl, hst]
            have hlt := lt_get hcur
            have hcap : c ≤ maxLen := by
              obtain ⟨n', _, h' | ⟨g2, cap, cur2, hv, _, hg, hc, hm, _⟩⟩ := own
              · cases h'.1
              · cases hv; exact hm
            refine opv_run hrun (h _ ⟨l.length, hrl, .inr ⟨g, c, _, rfl, hB, setRow_heap w g cur _ e _ hcur, hnc, hcap, ?_, ?_⟩⟩ ⟨rfl, rfl, rfl, by simp [World.setRow], fun k hk hs => ?_⟩)
            · have : cur.toList.length = c * i.size := by simpa using hcs
              rw [List.size_toArray, List.length_append, List.length_drop, hrl, this]; omega
            · show ((rows f (List.replicate l.length z) ++ cur.toList.drop (l.length * i.size)).take (l.length * i.size)) = _
              rw [List.take_append, hrl, Nat.sub_self, List.take_zero, List.append_nil, List.take_of_length_le (by omega)]
            · simp only [World.setRow, Array.getElem?_modify]
              rw [if_neg (fun e => hs (by subst e; rfl))]
        · cases ht
      · cases ht
    · cases ht
  · cases ht
/-- Runes as a text; a text's runes. -/
theorem convRS {s t e len cap : Nat} {A : Option Addr} {xs : List Int} (hs : P.underlying s = some (.slice e)) (he : P.underlying e = some (.int .i32)) (ht : P.underlying t = some .string) (hr : Rd w A (vals .i32 xs)) (hl : len = xs.length) :
    (convert s t (.slice A len cap)).run P w = .ok (.string (runesBytes xs)) w := by
  subst hl
  cases A with
  | none =>
    have : xs = [] := by
      rcases hr with h | ⟨a, ha, _⟩
      · have := congrArg List.length h; rw [vals_length] at this; exact List.length_eq_zero_iff.1 (by simpa using this)
      · cases ha
    subst this
    exact run_convert_runes_nil w s t e _ _ hs he ht
  | some a =>
    have hc : ∀ j, j < xs.length → w.cell? (a.add j) = some (.int .i32 (xs.getD j 0)) := by
      intro j hj
      rcases hr with h | ⟨a', ha, hc⟩
      · have := congrArg List.length h; rw [vals_length] at this; simp at this; subst this; simp at hj
      · cases ha
        rw [hc j (by rw [vals_length]; exact hj), vals_at (List.getElem?_eq_getElem hj)]
        simp [List.getD, List.getElem?_eq_getElem hj]
    have := run_convert_runes w s t e a xs.length cap xs (Nat.le_refl _) hs he ht hc
    rwa [List.take_length] at this
theorem convSR {s t e : Nat} {x : ByteArray} (hs : P.underlying s = some .string) (ht : P.underlying t = some (.slice e)) (he : P.underlying e = some (.int .i32)) (hx : (Conv.runesFrom x x.size 0 #[]).size ≤ 16777216)
    (h : ∀ A c w', Rd w' A (Conv.runesFrom x x.size 0 #[]).toList → GeA A (Conv.runesFrom x x.size 0 #[]).toList w.heap.size → Upd no w w' → K (.slice A (Conv.runesFrom x x.size 0 #[]).size c) w') :
    opv ((convert s t (.string x)).run P w) R K := by
  have hr := run_runes_of_string (P := P) w s t e x hs ht he (by omega)
  generalize Conv.runesFrom x x.size 0 #[] = cs at *
  generalize grownCap w cs.size 0 e = gc at *
  have hsz : (w.drew.alloc (.cells (cs ++ Array.replicate (gc - cs.size) (.int .i32 0)) e)).heap.size = w.heap.size + 1 := World.size_alloc _ _
  have hb : (w.drew.alloc (.cells (cs ++ Array.replicate (gc - cs.size) (.int .i32 0)) e)).heap[w.heap.size]? = some (.cells (cs ++ Array.replicate (gc - cs.size) (.int .i32 0)) e (0, 0)) := World.alloc_heap_new w.drew _
  have hold : ∀ k, k < w.heap.size → (w.drew.alloc (.cells (cs ++ Array.replicate (gc - cs.size) (.int .i32 0)) e)).heap[k]? = w.heap[k]? := fun k hk => RowKit.Below.heap_alloc w.drew _ k hk
  have hos : (w.drew.alloc (.cells (cs ++ Array.replicate (gc - cs.size) (.int .i32 0)) e)).os = w.os ∧ (w.drew.alloc (.cells (cs ++ Array.replicate (gc - cs.size) (.int .i32 0)) e)).tape = w.tape ∧ (w.drew.alloc (.cells (cs ++ Array.replicate (gc - cs.size) (.int .i32 0)) e)).output = w.output := ⟨rfl, rfl, rfl⟩
  generalize w.drew.alloc (.cells (cs ++ Array.replicate (gc - cs.size) (.int .i32 0)) e) = w2 at *
  refine opv_run hr (h _ _ _ ?_ (GeA.of_block (Nat.le_refl _)) ⟨hos.1, hos.2.1, hos.2.2, by omega, fun k hk _ => hold k hk⟩)
  have h2 := (Rd.of_block hb).take cs.size
  have e1 : (cs ++ Array.replicate (gc - cs.size) (Value.int .i32 0)).toList.take cs.size = cs.toList := by
    rw [Array.toList_append, List.take_append_of_le_length (by simp), List.take_of_length_le (by simp)]
  rw [e1] at h2
  exact h2
theorem Rd.drop {w : World} {a : Addr} {xs : List Value} (h : Rd w (some a) xs) (n : Nat) : Rd w (some (a.add n)) (xs.drop n) := by
  rcases h with rfl | ⟨a', ha, r⟩
  · left; simp
  · cases ha
    refine .inr ⟨_, rfl, fun j hj => ?_⟩
    rw [List.length_drop] at hj
    rw [add_add, r _ (by omega), List.getElem?_drop]
/-- A part of a slice of cells of one. -/
theorem slice1 {t n cap : Nat} {A : Option Addr} {xs : List Int} {k k1 k2 : IntKind} {lo hi : Int} (ht : slN P t = some 1) (hr : Rd w A (vals k xs)) (hl : n = xs.length) (h0 : 0 ≤ lo) (h1 : lo ≤ hi) (h2 : hi ≤ n) (hc : n ≤ cap)
    (h : ∀ A' c', Rd w A' (vals k ((xs.drop lo.toNat).take (hi.toNat - lo.toNat))) → K (.slice A' (hi.toNat - lo.toNat) c') w) :
    opv ((Instr.sliceAt t (.slice A n cap) (some (.int k1 lo)) (some (.int k2 hi)) none).run P w) R K := by
  unfold slN at ht
  split at ht
  · rename_i e hu
    have hel : P.elem t = e := by simp [Program.elem, hu]
    have hu' : P.underlying t = some (.slice (P.elem t)) := by rw [hel]; exact hu
    have hr1 := run_slice_lh (P := P) w t A n cap hu' k1 k2 lo hi h0 h1 (by omega)
    rw [run_cellsN (P := P) (w := w) (by rw [hel]; exact ht)] at hr1
    have hr2 := run_sliceAt_slice (P := P) w t (.slice A n cap) (some (.int k1 lo)) (some (.int k2 hi)) none hu'
    rw [hr1] at hr2
    refine opv_run (v := sliced A lo.toNat hi.toNat cap 1) (w' := w) hr2 (h _ _ ?_)
    subst hl
    by_cases he : cap = lo.toNat
    · have : lo.toNat = xs.length := by omega
      left
      simp [vals, this]
    · rw [if_neg he]
      cases A with
      | none =>
        rcases hr with hx | ⟨a, ha, _⟩
        · have := congrArg List.length hx; rw [vals_length] at this; simp at this; subst this; left; simp [vals]
        · cases ha
      | some a =>
        have := (hr.drop lo.toNat).take (hi.toNat - lo.toNat)
        rw [Nat.mul_one] 
        simpa [vals, List.map_drop, List.map_take] using this
  · cases ht
theorem eqPN {c : Bool} {t e : TypeId} {p : Option Addr} (h : P.underlying t = some (.pointer e)) : (binE c .eql t (.pointer p) (.pointer none)).run P w = .ok (.bool p.isNone) w := by
  have hp : P.pointee t = e := by simp [Program.pointee, h]
  have := run_eql_pointer_nil (P := P) w t p (by rw [hp]; exact h)
  cases c <;> simpa [binE, eqGuard, Sem.run_bind, Result.andThen] using this
theorem eqNil {c : Bool} {t e n cp : Nat} {A : Option Addr} (h : P.underlying t = some (.slice e)) : (binE c .eql t (.slice A n cp) (.slice none 0 0)).run P w = .ok (.bool A.isNone) w := by
  have := Lib.run_eql_slice_nil (P := P) w t e A n cp 0 0 h
  cases c <;> simpa [binE, eqGuard, Sem.run_bind, Result.andThen] using this
/-- The first part of a slice. -/
theorem sliceHi {t n cap m : Nat} {A : Option Addr} {k2 : IntKind} {hi : Int} (ht : slN P t = some m) (h0 : 0 ≤ hi) (h2 : hi ≤ cap) :
    (Instr.sliceAt t (.slice A n cap) none (some (.int k2 hi)) none).run P w = .ok (.slice A hi.toNat cap) w := by
  unfold slN at ht
  split at ht
  · rename_i e hu
    have hel : P.elem t = e := by simp [Program.elem, hu]
    have hu' : P.underlying t = some (.slice (P.elem t)) := by rw [hel]; exact hu
    have hr1 := run_slice_h (P := P) w t A n cap hu' k2 hi h0 h2
    rw [run_cellsN (P := P) (w := w) (by rw [hel]; exact ht)] at hr1
    rw [run_sliceAt_slice (P := P) w t (.slice A n cap) none (some (.int k2 hi)) none hu', hr1]
    simp only [Result.andThen, sliced, Nat.sub_zero, Nat.zero_mul]
    congr 2
    split
    · rfl
    · cases A <;> simp [Addr.add]
  · cases ht
theorem Own.rd1c {B : Nat} {w : World} {e : Nat} {v : Value} {k : IntKind} {xs : List Int} (h : Own B w e 1 v (vals k xs)) : ∃ A c, v = .slice A xs.length c ∧ Rd w A (vals k xs) ∧ xs.length ≤ c := by
  obtain ⟨A, c, rfl, hr⟩ := h.rd1
  exact ⟨A, c, rfl, hr, h.le_cap⟩
end Go.Sh
