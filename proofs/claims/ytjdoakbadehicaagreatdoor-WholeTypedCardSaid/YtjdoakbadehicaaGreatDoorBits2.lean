/-
  Bits, quotients and shifts of small numbers. No program, no condition.
-/
import Derived.Test.YtjdoakbadehicaaGreatDoorBits
namespace Go.Sh
open Go
variable {P : Program} {w : World}
theorem andB (t : TypeId) (k : IntKind) (x y : Int) : (binOp .and t (.int k x) (.int k y)).run P w = .ok (.int k (bits .and k x y)) w := by cases k <;> rfl
theorem orB (t : TypeId) (k : IntKind) (x y : Int) : (binOp .or t (.int k x) (.int k y)).run P w = .ok (.int k (bits .or k x y)) w := by cases k <;> rfl
theorem xorB (t : TypeId) (k : IntKind) (x y : Int) : (binOp .xor t (.int k x) (.int k y)).run P w = .ok (.int k (bits .xor k x y)) w := by cases k <;> rfl
theorem andNotB (t : TypeId) (k : IntKind) (x y : Int) : (binOp .andNot t (.int k x) (.int k y)).run P w = .ok (.int k (bits .andNot k x y)) w := by cases k <;> rfl
theorem u8_all {p : Int → Prop} (h : ∀ n : Fin 256, p (n.val : Int)) {x : Int} (hx : 0 ≤ x ∧ x ≤ 255) : p x := by
  have := h ⟨x.toNat, by omega⟩
  simpa [Int.toNat_of_nonneg hx.1] using this
theorem and_u8_32 {x : Int} (hx : 0 ≤ x ∧ x ≤ 255) : bits .and .u8 x 32 = x / 32 % 2 * 32 := u8_all (p := fun x => bits .and .u8 x 32 = x / 32 % 2 * 32) (by decide +kernel) hx
theorem and_u8_16 {x : Int} (hx : 0 ≤ x ∧ x ≤ 255) : bits .and .u8 x 16 = x / 16 % 2 * 16 := u8_all (p := fun x => bits .and .u8 x 16 = x / 16 % 2 * 16) (by decide +kernel) hx
theorem and_u8_12 {x : Int} (hx : 0 ≤ x ∧ x ≤ 255) : bits .and .u8 x 12 = x / 4 % 4 * 4 := u8_all (p := fun x => bits .and .u8 x 12 = x / 4 % 4 * 4) (by decide +kernel) hx
theorem and_u8_1 {x : Int} (hx : 0 ≤ x ∧ x ≤ 255) : bits .and .u8 x 1 = x % 2 := u8_all (p := fun x => bits .and .u8 x 1 = x % 2) (by decide +kernel) hx
theorem and_u8_63 {x : Int} (hx : 0 ≤ x ∧ x ≤ 255) : bits .and .u8 x 63 = x % 64 := u8_all (p := fun x => bits .and .u8 x 63 = x % 64) (by decide +kernel) hx
theorem or_u8_1 {x : Int} (hx : 0 ≤ x ∧ x ≤ 255) : bits .or .u8 x 1 = x - x % 2 + 1 := u8_all (p := fun x => bits .or .u8 x 1 = x - x % 2 + 1) (by decide +kernel) hx
theorem andNot_u8_1 {x : Int} (hx : 0 ≤ x ∧ x ≤ 255) : bits .andNot .u8 x 1 = x - x % 2 := u8_all (p := fun x => bits .andNot .u8 x 1 = x - x % 2) (by decide +kernel) hx
theorem and8_32 (t : TypeId) {x : Int} (hx : 0 ≤ x ∧ x ≤ 255) : (binOp .and t (.int .u8 x) (.int .u8 32)).run P w = .ok (.int .u8 (x / 32 % 2 * 32)) w := by rw [andB, and_u8_32 hx]
theorem and8_16 (t : TypeId) {x : Int} (hx : 0 ≤ x ∧ x ≤ 255) : (binOp .and t (.int .u8 x) (.int .u8 16)).run P w = .ok (.int .u8 (x / 16 % 2 * 16)) w := by rw [andB, and_u8_16 hx]
theorem and8_12 (t : TypeId) {x : Int} (hx : 0 ≤ x ∧ x ≤ 255) : (binOp .and t (.int .u8 x) (.int .u8 12)).run P w = .ok (.int .u8 (x / 4 % 4 * 4)) w := by rw [andB, and_u8_12 hx]
theorem and8_1 (t : TypeId) {x : Int} (hx : 0 ≤ x ∧ x ≤ 255) : (binOp .and t (.int .u8 x) (.int .u8 1)).run P w = .ok (.int .u8 (x % 2)) w := by rw [andB, and_u8_1 hx]
theorem and8_63 (t : TypeId) {x : Int} (hx : 0 ≤ x ∧ x ≤ 255) : (binOp .and t (.int .u8 x) (.int .u8 63)).run P w = .ok (.int .u8 (x % 64)) w := by rw [andB, and_u8_63 hx]
theorem or8_1 (t : TypeId) {x : Int} (hx : 0 ≤ x ∧ x ≤ 255) : (binOp .or t (.int .u8 x) (.int .u8 1)).run P w = .ok (.int .u8 (x - x % 2 + 1)) w := by rw [orB, or_u8_1 hx]
theorem andNot8_1 (t : TypeId) {x : Int} (hx : 0 ≤ x ∧ x ≤ 255) : (binOp .andNot t (.int .u8 x) (.int .u8 1)).run P w = .ok (.int .u8 (x - x % 2)) w := by rw [andNotB, andNot_u8_1 hx]
theorem and_127 (t : TypeId) (x : Int) : (binOp .and t (.int .i64 x) (.int .i64 127)).run P w = .ok (.int .i64 (x % 128)) w := by
  have := bits_low x 7 (by decide)
  have h : (binOp .and t (.int .i64 x) (.int .i64 127)).run P w = .ok (.int .i64 (bits .and .i64 x 127)) w := rfl
  rw [h, show (127 : Int) = ((2 ^ 7 - 1 : Nat) : Int) from rfl, this]; rfl
theorem rem_u8 (t : TypeId) {x y : Int} (hx : 0 ≤ x ∧ x ≤ 255) (h : 0 < y ∧ y ≤ 255) : (binOp .rem t (.int .u8 x) (.int .u8 y)).run P w = .ok (.int .u8 (x % y)) w := by
  have hy : ¬ y = 0 := by omega
  have h1 := Int.emod_nonneg x hy
  have h2 := Int.emod_lt_of_pos x h.1
  simp [go_sem, binOp, Op.intArith, hy]
  exact Int.tmod_eq_emod_of_nonneg hx.1
theorem quoN (t : TypeId) {x y : Int} (hx : 0 ≤ x) (hx2 : x ≤ 9223372036854775807) (h : 0 < y) : (binOp .quo t (.int .i64 x) (.int .i64 y)).run P w = .ok (.int .i64 (x / y)) w := by
  have hy : ¬ y = 0 := by omega
  have h1 := Int.ediv_nonneg hx (show 0 ≤ y by omega)
  have h2 := Int.ediv_le_self y hx
  simp [go_sem, binOp, Op.intArith, hy]
  rw [Int.tdiv_eq_ediv_of_nonneg hx, wrap_i64 (by omega) (by omega)]
theorem shr2 (t : TypeId) (x : Int) : (binOp .shr t (.int .i64 x) (.int .u64 2)).run P w = .ok (.int .i64 (x / 4)) w := by
  have h : (binOp .shr t (.int .i64 x) (.int .u64 2)).run P w = (Op.shift .shr .i64 x .u64 2).run P w := rfl
  rw [h, shift_shr _ _ _ _ (by decide) (by decide)]; rfl
/-- A region that draws, in which something loud keeps what is known of the world. -/
theorem drawn_T {C : World → Prop} {A : (World → World → Prop) → World → Prop} (hC : ∀ a b, C a → Upd no a b → C b) (h : ∀ w1, Upd no w w1 → A (fun a b => C a → C b) w1) : drawn w A :=
  ⟨_, ⟨fun _ h => h, fun h k hc => k (h hc), fun he hc => hC _ _ hc (Fr.of_ext he)⟩, h _ (Upd.drawn w)⟩
theorem Own.vone {B : Nat} {w : World} {e size : Nat} {v : Value} {xs : List Value} (h : Own B w e size v xs) : v.cells = #[v] ∧ v.oneCell' = true := by
  obtain ⟨n, _, h⟩ := h
  rcases h with ⟨rfl, _⟩ | ⟨g, cap, cur, rfl, _⟩ <;> exact ⟨rfl, rfl⟩
theorem def_ne_blk {w : World} {b b' : Nat} {cs : Array Value} {T : TypeId} {fr : Nat × Nat} {d : Option (List Deferred)} (h' : w.heap[b']? = some (.deferred d)) (h : w.heap[b]? = some (.cells cs T fr)) : b' ≠ b := by
  intro e; subst e; rw [h] at h'; cases h'
/-! ### One cell of an element of a row -/
theorem fieldAt_add {t f off : Nat} {a : Addr} (h : fOff P t f = some off) : (Instr.fieldAt t (.pointer (some a)) f).run P w = .ok (.pointer (some (a.add off))) w := by
  unfold fOff at h
  split at h
  · rename_i fs hu
    split at h
    · rename_i x hx
      split at h
      · rename_i m hm
        cases h
        unfold cellsN at hm
        cases hi : P.info? x.type with
        | none => simp [hi] at hm
        | some inf =>
          simp only [hi, Option.map_some, Option.some.injEq] at hm
          simp [Instr.fieldAt, Instr.sureAddr, Sem.run_bind, Result.andThen, run_underlying hu, fieldPlace, sizeOf, typeInfo, hi, hm, hx]
      · cases h
    · cases h
  · cases h
section
variable {α : Type} {f : α → List Value} {m : Nat} {l : List α} {R : Ending → World → Prop} {K : Value → World → Prop}
theorem row_cell (hf : Enc f m) {A : Addr} {len : Nat} {i off : Nat} {x : α} {v : Value} (hc : ∀ j, j < (rows f l).length → w.cell? (A.add j) = (rows f l)[j]?) (hx : l[i]? = some x) (ho : off < m) (hv : (f x)[off]? = some v) : w.cell? ((A.add (i * m)).add off) = some v := by
  obtain ⟨hi, _⟩ := List.getElem?_eq_some_iff.1 hx
  have him : i * m + m ≤ (rows f l).length := by
    rw [rows_len hf]
    have : (i + 1) * m ≤ l.length * m := Nat.mul_le_mul_right m hi
    rwa [Nat.add_mul, Nat.one_mul] at this
  rw [add_add, hc _ (by omega)]
  have h := rows_at hf hx
  rw [← h, List.getElem?_take, if_pos ho, List.getElem?_drop] at hv
  exact hv
theorem idx_rowF {t T fi U off len cap : Nat} {k : IntKind} {i : Int} {A : Option Addr} (hf : Enc f m) (vf : α → Value) (hvf : ∀ x, (f x)[off]? = some (vf x)) (ho : off < m) (hn : slN P t = some m) (hfo : fOff P T fi = some off) (hU : isOne P U = true) (hr : Rd w A (rows f l)) (hl : len = l.length) (h0 : 0 ≤ i) (h1 : i < len)
    (h : ∀ x, l[i.toNat]? = some x → K (vf x) w) : opv ((Instr.indexAt t (.slice A len cap) (.int k i)).run P w) R fun a w => opv ((Instr.fieldAt T a fi).run P w) R fun b w => opv ((Instr.loadAt U b).run P w) R K := by
  have hi : i.toNat < l.length := by omega
  have hx : l[i.toNat]? = some l[i.toNat] := List.getElem?_eq_getElem hi
  rcases hr with hr | ⟨a, rfl, hc⟩
  · have := rows_len hf l; rw [hr] at this; have hp := Nat.mul_pos (show 0 < l.length by omega) hf.pos; simp at this; omega
  · refine opv_run (index_sl (n := m) hn h0 h1) (opv_run (fieldAt_add hfo) (opv_run (load_cell hU ?_) (h _ hx)))
    exact row_cell (len := len) hf hc hx ho (hvf _)
theorem qidx_rowF {T' : World → World → Prop} {Q : Value → Prop} {t T fi U off len cap : Nat} {k : IntKind} {i : Int} {A : Option Addr} (hf : Enc f m) (vf : α → Value) (hvf : ∀ x, (f x)[off]? = some (vf x)) (ho : off < m) (hn : slN P t = some m) (hfo : fOff P T fi = some off) (hU : isOne P U = true) (hr : ∀ w', T' w w' → Rd w' A (rows f l)) (hw : T' w w) (hl : len = l.length) (h0 : 0 ≤ i) (h1 : i < len)
    (h : ∀ x, l[i.toNat]? = some x → Q (vf x)) : qop T' w (fun w K => opv ((Instr.indexAt t (.slice A len cap) (.int k i)).run P w) noR K) fun a => qop T' w (fun w K => opv ((Instr.fieldAt T a fi).run P w) noR K) fun b => qop T' w (fun w K => opv ((Instr.loadAt U b).run P w) noR K) Q := by
  have hi : i.toNat < l.length := by omega
  have hx : l[i.toNat]? = some l[i.toNat] := List.getElem?_eq_getElem hi
  have hpos : ¬ rows f l = [] := fun he => by have := rows_len hf l; rw [he] at this; have hp := Nat.mul_pos (show 0 < l.length by omega) hf.pos; simp at this; omega
  rcases hr w hw with he | ⟨a, rfl, _⟩
  · exact absurd he hpos
  · refine qop_run (fun w' _ => index_sl (n := m) hn h0 h1) (qop_run (fun w' _ => fieldAt_add hfo) (qop_run (fun w' hw' => load_cell hU ?_) (h _ hx)))
    rcases hr w' hw' with he | ⟨a', ha, hc⟩
    · exact absurd he hpos
    · cases ha
      exact row_cell (len := len) hf hc hx ho (hvf _)
end
end Go.Sh
