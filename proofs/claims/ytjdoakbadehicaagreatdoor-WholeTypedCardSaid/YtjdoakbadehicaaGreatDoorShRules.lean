/-
  Rules for the words of a shallow form: what each operation comes to, and how the memory goes on. No condition.
-/
import Derived.Test.YtjdoakbadehicaaGreatDoorShSound
namespace Go.Sh
open Go
variable {P : Program} {R : Ending → World → Prop} {K : Value → World → Prop} {w : World}

/-! ### Memory: what a step leaves -/
/-- Below block B everything stands as it did, but for the blocks of S. -/
structure Fr (S : Nat → Prop) (B : Nat) (w w' : World) : Prop where
  os : w'.os = w.os
  tape : w'.tape = w.tape
  output : w'.output = w.output
  size : w.heap.size ≤ w'.heap.size
  block : ∀ k, k < B → ¬ S k → w'.heap[k]? = w.heap[k]?
def no : Nat → Prop := fun _ => False
/-- One step. -/
abbrev Upd (S : Nat → Prop) (w w' : World) : Prop := Fr S w.heap.size w w'
theorem Fr.refl (S : Nat → Prop) (B : Nat) (w : World) : Fr S B w w := ⟨rfl, rfl, rfl, Nat.le_refl _, fun _ _ _ => rfl⟩
theorem Fr.trans {S : Nat → Prop} {B : Nat} {a b c : World} (h : Fr S B a b) (k : Fr S B b c) : Fr S B a c :=
  ⟨k.os.trans h.os, k.tape.trans h.tape, k.output.trans h.output, Nat.le_trans h.size k.size, fun i hi hs => (k.block i hi hs).trans (h.block i hi hs)⟩
theorem Fr.step {S S' : Nat → Prop} {B : Nat} {a b c : World} (h : Fr S B a b) (k : Upd S' b c) (hB : B ≤ b.heap.size) (hS : ∀ i, i < B → S' i → S i) : Fr S B a c :=
  ⟨k.os.trans h.os, k.tape.trans h.tape, k.output.trans h.output, Nat.le_trans h.size k.size,
    fun i hi hs => (k.block i (by omega) (fun h' => hs (hS i hi h'))).trans (h.block i hi hs)⟩
theorem Fr.mono {S S' : Nat → Prop} {B B' : Nat} {a b : World} (h : Fr S B a b) (hB : B' ≤ B) (hS : ∀ i, i < B' → S i → S' i) : Fr S' B' a b :=
  ⟨h.os, h.tape, h.output, h.size, fun i hi hs => h.block i (by omega) (fun h' => hs (hS i hi h'))⟩
/-- A step, from the start of a call on. -/
theorem Fr.go {S S' : Nat → Prop} {a b c : World} (h : Upd S a b) (k : Upd S' b c) (hS : ∀ i, i < a.heap.size → S' i → S i) : Upd S a c := h.step k h.size hS
theorem Fr.go0 {S : Nat → Prop} {a b c : World} (h : Upd S a b) (k : Upd no b c) : Upd S a c := h.step k h.size (fun _ _ h => h.elim)
/-- A step that writes one block that is new. -/
theorem Fr.go1 {S : Nat → Prop} {a b c : World} {g : Nat} (h : Upd S a b) (k : Upd (· = g) b c) (hg : a.heap.size ≤ g) : Upd S a c := h.step k h.size (fun i hi h => by have : i = g := h; omega)
theorem Fr.below {B : Nat} {a b : World} (h : Fr no B a b) : RowKit.Below B a b := ⟨h.os, h.tape, h.output, h.size, fun k hk => h.block k hk id⟩
theorem Fr.of_below {B : Nat} {a b : World} (h : RowKit.Below B a b) : Fr no B a b := ⟨h.os, h.tape, h.output, h.size, fun k hk _ => h.block k hk⟩
theorem Fr.of_ext {S : Nat → Prop} {a b : World} (h : Ext a b) : Upd S a b := ⟨h.os, h.tape, h.output, h.size, fun k hk _ => h.block k hk⟩
theorem lt_get {w : World} {b : Nat} {o : Obj} (h : w.heap[b]? = some o) : b < w.heap.size := (Array.getElem?_eq_some_iff.1 h).1
theorem Fr.get {S : Nat → Prop} {w w' : World} {b : Nat} {o : Obj} (h : Upd S w w') (hb : w.heap[b]? = some o) (hn : ¬ S b) : w'.heap[b]? = some o :=
  (h.block b (lt_get hb) hn).trans hb
theorem Fr.get0 {w w' : World} {b : Nat} {o : Obj} (h : Upd no w w') (hb : w.heap[b]? = some o) : w'.heap[b]? = some o := h.get hb id
theorem Fr.get1 {w w' : World} {b g : Nat} {o : Obj} (h : Upd (· = g) w w') (hb : w.heap[b]? = some o) (hn : b ≠ g) : w'.heap[b]? = some o := h.get hb hn
theorem Fr.cell {S : Nat → Prop} {w w' : World} {a : Addr} {v : Value} (h : Upd S w w') (hc : w.cell? a = some v) (hn : ¬ S a.block) : w'.cell? a = some v := by
  have hlt : a.block < w.heap.size := World.block_lt_of_cell? w a hc
  rw [World.cell?_of_block (h.block _ hlt hn)]; exact hc
theorem Fr.drew {S : Nat → Prop} {B : Nat} {a w : World} (h : Fr S B a w) : Fr S B a { w with drawn := w.drawn + 1 } := ⟨h.os, h.tape, h.output, h.size, h.block⟩
theorem Upd.drawn (w : World) : Upd no w { w with drawn := w.drawn + 1 } := ⟨rfl, rfl, rfl, Nat.le_refl _, fun _ _ _ => rfl⟩
theorem cell_of {w : World} {b o : Nat} {cs : Array Value} {T : TypeId} {fr : Nat × Nat} (hb : w.heap[b]? = some (.cells cs T fr)) : w.cell? ⟨b, o, none⟩ = cs[o]? := by
  simp [World.cell?, hb]

/-! ### Words that only compute -/
theorem opv_ok (v : Value) (w : World) : opv (.ok v w) R K = K v w := rfl
theorem opu_ok (u : Unit) (w : World) : opu (.ok u w) R K = K undef w := rfl
theorem opv_panic (v : Value) (w : World) : opv (.halt (.panic v) w) R K = R (.panicked [{ v, recovered := false }]) w := rfl
theorem opv_eq {r : Result Value} {v : Value} {w' : World} (h : r = .ok v w') : opv r R K = K v w' := by rw [h]; rfl
theorem opu_eq {r : Result Unit} {u : Unit} {w' : World} (h : r = .ok u w') : opu r R K = K undef w' := by rw [h]; rfl
@[congr] theorem opv_congr {r r' : Result Value} (h : r = r') : opv r R K = opv r' R K := by rw [h]
@[congr] theorem opu_congr {r r' : Result Unit} (h : r = r') : opu r R K = opu r' R K := by rw [h]
@[congr] theorem gd_congr {v v' : Value} {want : Bool} {op : (Value → World → Prop) → Prop} (h : v = v') : gd v want op w K = gd v' want op w K := by rw [h]
@[congr] theorem pick_congr {c c' a b : Value} (h : c = c') : pick c a b w K = pick c' a b w K := by rw [h]
@[congr] theorem nilck_congr {c c' : Value} (h : c = c') : nilck c w K = nilck c' w K := by rw [h]
@[congr] theorem cond_congr {c c' : Value} {A B : Prop} (h : c = c') : cond c A B = cond c' A B := by rw [h]
@[congr] theorem callF_congr {f : FuncId} {a a' : Array Value} (h : a = a') : callF P f a w R K = callF P f a' w R K := by rw [h]
@[congr] theorem join_congr {e : Env} {A : (Env → World → Prop) → Prop} {r : Env → Env → World → Prop} : join e A r = join e A r := rfl
@[congr] theorem loop_congr {e : Env} {b : Env → Env → World → (Env → World → Prop) → Prop} : loop e w b = loop e w b := rfl
@[congr] theorem ext_congr {k : World → Prop} : ext w k = ext w k := rfl
@[congr] theorem drawn_congr {k : (World → World → Prop) → World → Prop} : drawn w k = drawn w k := rfl
theorem gd_tt (op : (Value → World → Prop) → Prop) : gd (.bool true) true op w K = op K := rfl
theorem gd_ff (op : (Value → World → Prop) → Prop) : gd (.bool false) false op w K = op K := rfl
theorem gd_tf (op : (Value → World → Prop) → Prop) : gd (.bool true) false op w K = K undef w := rfl
theorem gd_ft (op : (Value → World → Prop) → Prop) : gd (.bool false) true op w K = K undef w := rfl
theorem gd_un (want : Bool) (op : (Value → World → Prop) → Prop) : gd undef want op w K = K undef w := rfl
theorem pick_t (a b : Value) : pick (.bool true) a b w K = K a w := rfl
theorem pick_f (a b : Value) : pick (.bool false) a b w K = K b w := rfl
theorem nilck_some (a : Addr) : nilck (.pointer (some a)) w K = K (.pointer (some a)) w := rfl
theorem cond_t (A B : Prop) : cond (.bool true) A B = A := rfl
theorem cond_f (A B : Prop) : cond (.bool false) A B = B := rfl
theorem dec_t {p : Prop} [Decidable p] (h : p) : Value.bool (decide p) = .bool true := by rw [decide_eq_true h]
theorem dec_f {p : Prop} [Decidable p] (h : ¬ p) : Value.bool (decide p) = .bool false := by rw [decide_eq_false h]
theorem cond_intro {b : Bool} {A B : Prop} (h1 : b = true → A) (h2 : b = false → B) : cond (.bool b) A B := by cases b; exact h2 rfl; exact h1 rfl
theorem cond_dec {p : Prop} [Decidable p] {A B : Prop} (h1 : p → A) (h2 : ¬ p → B) : cond (.bool (decide p)) A B := by
  by_cases h : p
  · rw [dec_t h]; exact h1 h
  · rw [dec_f h]; exact h2 h
theorem gd_dec {p : Prop} [Decidable p] {want : Bool} {op : (Value → World → Prop) → Prop} (h1 : p → gd (.bool true) want op w K) (h2 : ¬ p → gd (.bool false) want op w K) : gd (.bool (decide p)) want op w K := by
  by_cases h : p
  · rw [dec_t h]; exact h1 h
  · rw [dec_f h]; exact h2 h

/-- Integers. -/
theorem lss (t : TypeId) (k : IntKind) (x y : Int) : (binOp .lss t (.int k x) (.int k y)).run P w = .ok (.bool (decide (x < y))) w := by simp [go_sem]
theorem leq (t : TypeId) (k : IntKind) (x y : Int) : (binOp .leq t (.int k x) (.int k y)).run P w = .ok (.bool (decide (x ≤ y))) w := by simp [go_sem]
theorem gtr (t : TypeId) (k : IntKind) (x y : Int) : (binOp .gtr t (.int k x) (.int k y)).run P w = .ok (.bool (decide (y < x))) w := by simp [go_sem]
theorem geq (t : TypeId) (k : IntKind) (x y : Int) : (binOp .geq t (.int k x) (.int k y)).run P w = .ok (.bool (decide (y ≤ x))) w := by simp [go_sem]
theorem eqI (c : Bool) (t : TypeId) (k : IntKind) (x y : Int) : (binE c .eql t (.int k x) (.int k y)).run P w = .ok (.bool (decide (x = y))) w := by
  cases c <;> simp [binE, go_sem] <;> rfl
theorem neI (c : Bool) (t : TypeId) (k : IntKind) (x y : Int) : (binE c .neq t (.int k x) (.int k y)).run P w = .ok (.bool (decide (x ≠ y))) w := by
  cases c <;> simp [binE, go_sem] <;> (by_cases h : x = y <;> simp [h])
theorem eqB (c : Bool) (t : TypeId) (ht : P.underlying t = some .bool) (x y : Bool) : (binE c .eql t (.bool x) (.bool y)).run P w = .ok (.bool (decide (x = y))) w := by
  have h := run_eql_bool (P := P) (w := w) t x y ht
  cases c <;> simp [binE, go_sem, h] <;> cases x <;> cases y <;> rfl
theorem neB (c : Bool) (t : TypeId) (ht : P.underlying t = some .bool) (x y : Bool) : (binE c .neq t (.bool x) (.bool y)).run P w = .ok (.bool (decide (x ≠ y))) w := by
  have h := run_neq_bool (P := P) (w := w) t x y ht
  cases c <;> simp [binE, go_sem, h] <;> cases x <;> cases y <;> rfl
theorem bytes_eq_iff (x y : ByteArray) : x = y ↔ x.data.toList = y.data.toList := by
  constructor
  · rintro rfl; rfl
  · intro h; cases x; cases y; simp_all
theorem bytes_beq (x y : ByteArray) : (x.toList == y.toList) = decide (x = y) := by
  rw [Go.ByteArray.toList_eq, Go.ByteArray.toList_eq]
  by_cases h : x = y
  · subst h; simp
  · have : ¬ x.data.toList = y.data.toList := fun e => h ((bytes_eq_iff x y).2 e)
    simp only [h, decide_false]
    exact beq_eq_false_iff_ne.2 this
theorem eqS (c : Bool) (t : TypeId) (x y : ByteArray) : (binE c .eql t (.string x) (.string y)).run P w = .ok (.bool (decide (x = y))) w := by
  cases c <;> simp [binE, go_sem, bytes_beq]
theorem neS (c : Bool) (t : TypeId) (x y : ByteArray) : (binE c .neq t (.string x) (.string y)).run P w = .ok (.bool (decide (x ≠ y))) w := by
  cases c <;> simp [binE, go_sem, bytes_beq]
theorem addI (t : TypeId) (k : IntKind) (x y : Int) : (binOp .add t (.int k x) (.int k y)).run P w = .ok (.int k (k.wrap (x + y))) w := by simp [go_sem, binOp, Op.intArith]
theorem subI (t : TypeId) (k : IntKind) (x y : Int) : (binOp .sub t (.int k x) (.int k y)).run P w = .ok (.int k (k.wrap (x - y))) w := by simp [go_sem, binOp, Op.intArith]
theorem mulI (t : TypeId) (k : IntKind) (x y : Int) : (binOp .mul t (.int k x) (.int k y)).run P w = .ok (.int k (k.wrap (x * y))) w := by simp [go_sem, binOp, Op.intArith]
theorem notB (b : Bool) : (Op.unary .not (.bool b)).run P w = .ok (.bool (!b)) w := by simp [go_sem, Op.unary]

/-! Facts on types, each a closed equation -/
def aggD : TypeDesc → Bool
  | .struct _ | .array _ _ => true
  | _ => false
def isOne (P : Program) (t : TypeId) : Bool := match P.underlying t with | some d => !aggD d | none => false
def cellsN (P : Program) (t : TypeId) : Option Nat := (P.info? t).map (·.size)
def aggN (P : Program) (t : TypeId) : Option Nat := match P.underlying t with | some d => (if aggD d then cellsN P t else none) | none => none
def slN (P : Program) (t : TypeId) : Option Nat := match P.underlying t with | some (.slice e) => cellsN P e | _ => none
def isSl (P : Program) (t : TypeId) : Bool := match P.underlying t with | some (.slice _) => true | _ => false
def isStr (P : Program) (t : TypeId) : Bool := match P.underlying t with | some .string => true | _ => false
def isBoolT (P : Program) (t : TypeId) : Bool := match P.underlying t with | some .bool => true | _ => false
def intK (P : Program) (t : TypeId) : Option IntKind := match P.underlying t with | some (.int k) => some k | _ => none
def zeroC (P : Program) (t : TypeId) : Option (Array Value) := match P.info? t with | some i => i.zero.map (·.cells) | none => none
def fOff (P : Program) (t : TypeId) (f : Nat) : Option Nat := match P.underlying t with
  | some (.struct fs) => (match fs[f]? with | some x => (match cellsN P x.type with | some (_ + 1) => some x.offset | _ => none) | none => none)
  | _ => none
def fTy (P : Program) (t : TypeId) (f : Nat) : Option (Nat × Option Nat) := match P.underlying t with
  | some (.struct fs) => (match fs[f]? with
    | some x => (match P.underlying x.type with | some d => (match aggD d with | true => (cellsN P x.type).map (x.offset, some ·) | false => some (x.offset, none)) | none => none)
    | none => none)
  | _ => none
def arOne (P : Program) (t : TypeId) : Option Nat := match P.underlying t with | some (.array n e) => (if isOne P e && cellsN P e == some 1 then some n else none) | _ => none

/-! ### Operations on memory -/
theorem nc_ne {n : Nat} (h : n = 0) : n = 0 := h
/-- A new variable. -/
theorem alloc_intro {t : TypeId} {cs : Array Value} (hz : zeroC P t = some cs)
    (h : ∀ b w', b = w.heap.size → w'.heap[b]? = some (.cells cs t (0, 0)) → w'.heap.size = w.heap.size + 1 → Upd no w w' → K (.pointer (some ⟨b, 0, none⟩)) w') :
    opv ((Instr.alloc t true (.tuple #[])).run P w) R K := by
  unfold zeroC at hz
  split at hz
  · rename_i i hi
    cases hiz : i.zero with
    | none => simp [hiz] at hz
    | some z =>
      simp only [hiz, Option.map_some, Option.some.injEq] at hz
      have hr : (Instr.alloc t true (.tuple #[])).run P w = .ok (.pointer (some ⟨w.heap.size, 0, none⟩)) { w with heap := w.heap.push (.cells cs t (0, 0)) } := by
        simp [Instr.alloc, zeroValue, typeInfo, hi, hiz, newVar, newRow, ← hz, Sem.run_bind, Result.andThen]
      rw [hr]
      exact h _ _ rfl (by simp) (by simp) ⟨rfl, rfl, rfl, by simp, fun k hk _ => by simp [Array.getElem?_push]; omega⟩
  · cases hz
theorem box_intro {t : TypeId} {v : Value} {cs : Array Value} (hc : v.cells = cs)
    (h : ∀ b w', b = w.heap.size → w'.heap[b]? = some (.cells cs t (0, 0)) → w'.heap.size = w.heap.size + 1 → Upd no w w' → K (.pointer (some ⟨b, 0, none⟩)) w') :
    opv ((Instr.box t v).run P w) R K := by
  have hr : (Instr.box t v).run P w = .ok (.pointer (some ⟨w.heap.size, 0, none⟩)) { w with heap := w.heap.push (.cells cs t (0, 0)) } := by
    simp [Instr.box, newVar, newRow, ← hc, Sem.run_bind, Result.andThen]
  rw [hr]
  exact h _ _ rfl (by simp) (by simp) ⟨rfl, rfl, rfl, by simp, fun k hk _ => by simp [Array.getElem?_push]; omega⟩

/-- A variable of one cell, read. -/
theorem load_cell {t : TypeId} {a : Addr} {v : Value} (hu : isOne P t = true) (hc : w.cell? a = some v) :
    (Instr.loadAt t (.pointer (some a))).run P w = .ok v w := by
  unfold isOne at hu
  split at hu
  · rename_i d hd
    simp only [Instr.loadAt, Instr.sureAddr, loadVar, isAgg, Sem.run_bind, Sem.run_pure, Result.andThen, run_underlying hd]
    cases d <;> simp [aggD] at hu <;> simp [hc]
  · cases hu
theorem ldC {t b o : Nat} {cs : Array Value} {T : TypeId} {fr : Nat × Nat} {v : Value} (hu : isOne P t = true) (hb : w.heap[b]? = some (.cells cs T fr)) (hv : cs[o]? = some v) :
    (Instr.loadAt t (.pointer (some ⟨b, o, none⟩))).run P w = .ok v w := load_cell hu ((cell_of hb).trans hv)
/-- A struct or an array, read. -/
theorem load_agg {t n b o : Nat} {T : TypeId} {fr : Nat × Nat} {cs : Array Value} (hn : aggN P t = some n) (hb : w.heap[b]? = some (.cells cs T fr)) (hl : o + n ≤ cs.size) :
    (Instr.loadAt t (.pointer (some ⟨b, o, none⟩))).run P w = .ok (.agg (cs.extract o (o + n))) w := by
  unfold aggN at hn
  split at hn
  · rename_i d hu
    split at hn
    · rename_i hd
      unfold cellsN at hn
      cases hi : P.info? t with
      | none => simp [hi] at hn
      | some i =>
        simp only [hi, Option.map_some, Option.some.injEq] at hn
        have hcells : ∀ j, j < n → w.cell? ((⟨b, o, none⟩ : Addr).add j) = some (cs.getD (o + j) undef) := fun j hj => by
          have hadd : (⟨b, o, none⟩ : Addr).add j = ⟨b, o + j, none⟩ := by unfold Addr.add; split <;> simp_all
          rw [hadd, cell_of hb]
          have : o + j < cs.size := by omega
          simp [Array.getD, this]
        have hlc := run_loadCells (P := P) w ⟨b, o, none⟩ n (fun j => cs.getD (o + j) undef) hcells
        have hagg : ((List.range n).map fun j => cs.getD (o + j) undef).toArray = cs.extract o (o + n) := by
          apply Array.ext
          · simp; omega
          · intro j h1 h2
            simp at h1
            have : o + j < cs.size := by omega
            simp [Array.getD, this]
        rw [hagg] at hlc
        simp only [Instr.loadAt, Instr.sureAddr, loadVar, isAgg, sizeOf, typeInfo, Sem.run_bind, Sem.run_pure, Result.andThen, run_underlying hu, run_program, hi, hn]
        cases d <;> simp [aggD] at hd <;> simp [hi, hlc, Result.andThen, hn]
    · cases hn
  · cases hn
theorem ldA {t n b o : Nat} {T : TypeId} {fr : Nat × Nat} {cs cs' : Array Value} (hn : aggN P t = some n) (hb : w.heap[b]? = some (.cells cs T fr)) (hl : o + n ≤ cs.size) (hcs : cs.extract o (o + n) = cs') :
    (Instr.loadAt t (.pointer (some ⟨b, o, none⟩))).run P w = .ok (.agg cs') w := by rw [load_agg hn hb hl, hcs]

/-- A store. -/
theorem store_intro {t : TypeId} {v : Value} {b o n : Nat} {T : TypeId} {cs cs' : Array Value} (hn : cellsN P t = some n) (hv : v.cells.size = n) (h1 : v.cells.all (·.oneCell') = true)
    (hb : w.heap[b]? = some (.cells cs T (0, 0))) (hl : o + n ≤ cs.size) (hcs : (cs.toList.take o ++ v.cells.toList ++ cs.toList.drop (o + n)).toArray = cs')
    (h : ∀ w', w'.heap[b]? = some (.cells cs' T (0, 0)) → w'.heap.size = w.heap.size → Upd (· = b) w w' → K undef w') :
    opu ((Instr.storeAt t (.pointer (some ⟨b, o, none⟩)) v).run P w) R K := by
  unfold cellsN at hn
  cases hi : P.info? t with
  | none => simp [hi] at hn
  | some i =>
    simp only [hi, Option.map_some, Option.some.injEq] at hn
    have hst := run_storeCells_at (P := P) b o T v.cells.toList 0 cs w hb (by simp [hv]; omega) (fun x hx => by
      have := Array.all_eq_true'.1 h1 x (by simpa using hx)
      exact this)
    simp only [Nat.add_zero, Array.length_toList, hv, hcs] at hst
    have hr : (Instr.storeAt t (.pointer (some ⟨b, o, none⟩)) v).run P w = .ok () (w.setRow b cs') := by
      simp [Instr.storeAt, Instr.sureAddr, storeVar, sizeOf, typeInfo, Sem.run_bind, Result.andThen, hi, hv, hn, hst]
    rw [hr]
    have hlt := lt_get hb
    refine h _ (setRow_heap w b cs cs' T _ hb) (by simp [World.setRow]) ⟨rfl, rfl, rfl, by simp [World.setRow], fun k hk hs => ?_⟩
    simp only [World.setRow, Array.getElem?_modify]
    rw [if_neg (fun e => hs e.symm)]

/-- Slices. -/
theorem index_slice {t n b o len cap : Nat} {k : IntKind} {i : Int} (hn : slN P t = some n) (h0 : 0 ≤ i) (h1 : i < len) :
    (Instr.indexAt t (.slice (some ⟨b, o, none⟩) len cap) (.int k i)).run P w = .ok (.pointer (some ⟨b, o + i.toNat * n, none⟩)) w := by
  unfold slN at hn
  split at hn
  · rename_i e hu
    unfold cellsN at hn
    cases hi : P.info? e with
    | none => simp [hi] at hn
    | some inf =>
      simp only [hi, Option.map_some, Option.some.injEq] at hn
      have hadd : (⟨b, o, none⟩ : Addr).add (i.toNat * n) = ⟨b, o + i.toNat * n, none⟩ := by unfold Addr.add; split <;> simp_all
      simp [Instr.indexAt, asIntOf, Sem.run_bind, Result.andThen, run_underlying hu, h0, h1, sizeOf, typeInfo, hi, hn, hadd]
  · cases hn
/-- An array's element, by its place. -/
theorem index_arrp {t n m b o : Nat} {k : IntKind} {i : Int} (hn : (match P.underlying t with | some (.array n e) => (cellsN P e).map (n, ·) | _ => none) = some (n, m)) (h0 : 0 ≤ i) (h1 : i < n) :
    (Instr.indexAt t (.pointer (some ⟨b, o, none⟩)) (.int k i)).run P w = .ok (.pointer (some ⟨b, o + i.toNat * m, none⟩)) w := by
  split at hn
  · rename_i n' e hu
    unfold cellsN at hn
    cases hi : P.info? e with
    | none => simp [hi] at hn
    | some inf =>
      simp only [hi, Option.map_some, Option.some.injEq, Prod.mk.injEq] at hn
      obtain ⟨rfl, hn⟩ := hn
      have hadd : (⟨b, o, none⟩ : Addr).add (i.toNat * m) = ⟨b, o + i.toNat * m, none⟩ := by unfold Addr.add; split <;> simp_all
      simp [Instr.indexAt, Instr.sureAddr, asIntOf, Sem.run_bind, Result.andThen, run_underlying hu, h0, h1, sizeOf, typeInfo, hi, hn, hadd]
  · cases hn
theorem len_sl {t ty : TypeId} (hu : isSl P t = true) (a : Option Addr) (len cap : Nat) : (Builtin.len_ #[t] ty #[.slice a len cap]).run P w = .ok (.int .i64 len) w := by
  unfold isSl at hu
  split at hu
  · rename_i e hd; simp [Builtin.len_, Sem.run_bind, Result.andThen, run_underlying hd, goInt]
  · cases hu
theorem len_str {t ty : TypeId} (hu : isStr P t = true) (s : ByteArray) : (Builtin.len_ #[t] ty #[.string s]).run P w = .ok (.int .i64 s.size) w := by
  unfold isStr at hu
  split at hu
  · rename_i hd; simp [Builtin.len_, Sem.run_bind, Result.andThen, run_underlying hd, goInt]
  · cases hu
theorem ext_t {vs : Array Value} {i : Nat} {v : Value} (h : vs[i]? = some v) : (Instr.extract (.tuple vs) i).run P w = .ok v w := by simp [Instr.extract, h]
/-- An index of an array that is a value. -/
theorem index_arr {t n : Nat} {cs : Array Value} {k : IntKind} {i : Int} {v : Value} (hn : arOne P t = some n) (h0 : 0 ≤ i) (h1 : i < n) (hv : cs[i.toNat]? = some v) :
    (Instr.index t (.agg cs) (.int k i)).run P w = .ok v w := by
  unfold arOne at hn
  split at hn
  · rename_i n' e hu
    split at hn
    · rename_i he
      cases hn
      simp only [Bool.and_eq_true, beq_iff_eq] at he
      obtain ⟨he, hs⟩ := he
      unfold isOne at he
      unfold cellsN at hs
      cases hi : P.info? e with
      | none => simp [hi] at hs
      | some inf =>
        simp only [hi, Option.map_some, Option.some.injEq] at hs
        split at he
        · rename_i d hd
          simp only [Instr.index, asIntOf, Sem.run_bind, Sem.run_pure, Result.andThen, run_underlying hu, h0, h1, and_self, if_true, sizeOf, typeInfo, run_program, hi, hs, part, isAgg, run_underlying hd]
          cases d <;> simp [aggD] at he <;> simp [hv]
        · cases he
    · cases hn
  · cases hn
theorem convII {s t : TypeId} {k k' : IntKind} {n : Int} (hs : (intK P s).isSome = true) (ht : intK P t = some k) : (convert s t (.int k' n)).run P w = .ok (.int k (k.wrap n)) w := by
  unfold intK at hs ht
  split at hs
  · rename_i k1 h1
    split at ht
    · rename_i k2 h2
      cases ht
      simp [convert, Sem.run_bind, Result.andThen, run_underlying h1, run_underlying h2, Conv.intToInt]
    · cases ht
  · cases hs
/-- A field's place; a field of a value. -/
theorem fieldAt_eq {t f b o off : Nat} (h : fOff P t f = some off) : (Instr.fieldAt t (.pointer (some ⟨b, o, none⟩)) f).run P w = .ok (.pointer (some ⟨b, o + off, none⟩)) w := by
  unfold fOff at h
  split at h
  · rename_i fs hu
    split at h
    · rename_i x hx
      split at h
      · rename_i m hm
        cases h
        unfold cellsN at hm
        cases hi : P.info? x.type with
        | none => simp [hi] at hm
        | some inf =>
          simp only [hi, Option.map_some, Option.some.injEq] at hm
          have hadd : (⟨b, o, none⟩ : Addr).add x.offset = ⟨b, o + x.offset, none⟩ := by unfold Addr.add; split <;> simp_all
          simp [Instr.fieldAt, Sem.run_bind, Result.andThen, run_underlying hu, hx, Instr.sureAddr, fieldPlace, sizeOf, typeInfo, hi, hm, hadd]
      · cases h
    · cases h
  · cases h
theorem field_one {t f off : Nat} {cs : Array Value} {v : Value} (h : fTy P t f = some (off, none)) (hv : cs[off]? = some v) : (Instr.field t (.agg cs) f).run P w = .ok v w := by
  unfold fTy at h
  split at h
  · rename_i fs hu
    split at h
    · rename_i x hx
      split at h
      · rename_i d hd
        split at h
        · rename_i ha
          cases hc : cellsN P x.type <;> simp [hc] at h
        · rename_i ha
          simp only [Option.some.injEq, Prod.mk.injEq, and_true] at h
          subst h
          simp only [Instr.field, Sem.run_bind, Result.andThen, run_underlying hu, hx, asAgg, Sem.run_pure, part, isAgg, run_underlying hd]
          cases d <;> simp [aggD] at ha <;> simp [hv]
      · cases h
    · cases h
  · cases h
theorem field_agg {t f off n : Nat} {cs cs' : Array Value} (h : fTy P t f = some (off, some n)) (hv : cs.extract off (off + n) = cs') : (Instr.field t (.agg cs) f).run P w = .ok (.agg cs') w := by
  unfold fTy at h
  split at h
  · rename_i fs hu
    split at h
    · rename_i x hx
      split at h
      · rename_i d hd
        split at h
        · rename_i ha
          unfold cellsN at h
          cases hi : P.info? x.type with
          | none => simp [hi] at h
          | some inf =>
            simp only [hi, Option.map_some, Option.some.injEq, Prod.mk.injEq] at h
            obtain ⟨rfl, rfl⟩ := h
            subst hv
            simp only [Instr.field, Sem.run_bind, Result.andThen, run_underlying hu, hx, asAgg, Sem.run_pure, part, isAgg, run_underlying hd]
            cases d <;> simp [aggD] at ha <;> simp [sizeOf, typeInfo, hi, Sem.run_bind, Result.andThen]
        · simp at h
      · cases h
    · cases h
  · cases h
/-- What a struct is built of. -/
def szs (P : Program) : List Field → Option (List (Nat × Nat))
  | [] => some []
  | f :: fs => match cellsN P f.type, szs P fs with | some n, some l => some ((f.offset, n) :: l) | _, _ => none
def blI (P : Program) (t : TypeId) : Option (List (Nat × Nat) × Array Value) := match P.underlying t, zeroC P t with
  | some (.struct fs), some z => (match szs P fs.toList with | some l => some (l, z) | none => none)
  | _, _ => none
theorem run_cellsN {t n : Nat} (h : cellsN P t = some n) : (sizeOf t).run P w = .ok n w := by
  unfold cellsN at h
  cases hi : P.info? t with
  | none => simp [hi] at h
  | some i =>
    simp only [hi, Option.map_some, Option.some.injEq] at h
    simp [sizeOf, typeInfo, hi, h, Sem.run_bind, Result.andThen]
theorem run_szs : ∀ (fs : List Field) (l : List (Nat × Nat)), szs P fs = some l → (fs.mapM fun f => (do pure (f.offset, ← sizeOf f.type) : Sem (Nat × Nat))).run P w = .ok l w
  | [], l, h => by cases h; rfl
  | f :: fs, l, h => by
    simp only [szs] at h
    split at h
    · rename_i n l' hn hl
      cases h
      rw [List.mapM_cons]
      rw [Sem.run_bind, Sem.run_bind, run_cellsN hn]
      simp only [Result.andThen, Sem.run_pure, Sem.run_bind, run_szs fs l' hl]
    · cases h
theorem run_zeroC {t : TypeId} {z : Array Value} (h : zeroC P t = some z) : ∃ v, (zeroValue t).run P w = .ok v w ∧ v.cells = z := by
  unfold zeroC at h
  split at h
  · rename_i i hi
    cases hz : i.zero with
    | none => simp [hz] at h
    | some v =>
      simp only [hz, Option.map_some, Option.some.injEq] at h
      exact ⟨v, by simp [zeroValue, typeInfo, hi, hz, Sem.run_bind, Result.andThen], h⟩
  · cases h
/-- Parts laid into cells, on lists. -/
def splice (l : List Value) (o : Nat) (xs : List Value) : List Value := l.take o ++ xs ++ l.drop (o + xs.length)
def fillL (place : Nat → Option (Nat × Nat)) : List Value → List (Nat × Value) → Option (List Value)
  | l, [] => some l
  | l, (i, v) :: rest => match place i with
    | none => none
    | some (off, size) => if v.cells.toList.length = size ∧ off + size ≤ l.length then fillL place (splice l off v.cells.toList) rest else none
theorem foldl_splice (xs : List Value) : ∀ (o j : Nat) (cur : Array Value), o + j + xs.length ≤ cur.size →
    ((xs.zipIdx j).foldl (fun (cs : Array Value) (x : Value × Nat) => cs.setIfInBounds (o + x.2) x.1) cur).toList = splice cur.toList (o + j) xs := by
  induction xs with
  | nil => intro o j cur _; simp [splice]
  | cons v vs ih =>
    intro o j cur h
    simp only [List.length_cons] at h
    simp only [List.zipIdx_cons, List.foldl_cons]
    rw [ih o (j + 1) (cur.setIfInBounds (o + j) v) (by simp; omega)]
    have hlt : o + j < cur.toList.length := by simp; omega
    simp only [splice, Array.toList_setIfInBounds, List.length_cons]
    have e1 : o + (j + 1) = o + j + 1 := by omega
    have e2 : o + j + 1 + vs.length = o + j + (vs.length + 1) := by omega
    rw [e1, e2]
    rw [List.take_set, List.take_succ_eq_append_getElem hlt, List.set_append_right (s := cur.toList.take (o + j)) _ _ (by simp; omega)]
    have hl : (cur.toList.take (o + j)).length = o + j := by simp; omega
    rw [hl, Nat.sub_self]
    simp only [List.set_cons_zero, List.append_assoc, List.cons_append, List.nil_append]
    rw [List.drop_set_of_lt (by omega)]
theorem fill_of {place : Nat → Option (Nat × Nat)} : ∀ (parts : List (Nat × Value)) (z : Array Value) (cs : List Value), fillL place z.toList parts = some cs → Instr.fill place z parts = some cs.toArray
  | [], z, cs, h => by simp only [fillL, Option.some.injEq] at h; subst h; simp [Instr.fill]
  | (i, v) :: rest, z, cs, h => by
    simp only [fillL] at h
    split at h
    · cases h
    · rename_i off size hp
      split at h
      · rename_i hc
        obtain ⟨h1, h2⟩ := hc
        simp only [Array.length_toList] at h1 h2
        simp only [Instr.fill, hp]
        rw [if_neg (by simp only [Bool.or_eq_true, decide_eq_true_eq, not_or]; omega)]
        have e : (v.cells.zipIdx.foldl (fun (cs : Array Value) (x : Value × Nat) => cs.setIfInBounds (off + x.2) x.1) z).toList = splice z.toList off v.cells.toList := by
          rw [← Array.foldl_toList, Array.toList_zipIdx]
          have := foldl_splice v.cells.toList off 0 z (by simp; omega)
          simpa using this
        exact fill_of rest _ cs (by rw [e]; exact h)
      · cases h
theorem build_eq {t : TypeId} {l : List (Nat × Nat)} {z : Array Value} {cs : List Value} {parts : List (Nat × Value)} (h : blI P t = some (l, z)) (hf : fillL (fun i => l[i]?) z.toList parts = some cs) :
    (Instr.build t parts.toArray).run P w = .ok (.agg cs.toArray) w := by
  unfold blI at h
  split at h
  · rename_i fs z' hu hz
    split at h
    · rename_i l' hl
      cases h
      obtain ⟨v, hv, hvc⟩ := run_zeroC (w := w) hz
      have hm : (fs.mapM fun f => (do pure (f.offset, ← sizeOf f.type) : Sem (Nat × Nat))).run P w = .ok l.toArray w := by
        rw [Array.mapM_eq_mapM_toList, map_eq_pure_bind, Sem.run_bind, run_szs fs.toList l hl]
        rfl
      simp only [Instr.build, Sem.run_bind, hv, Result.andThen, Sem.run_pure, run_underlying hu, hm, hvc]
      have : (fun i : Nat => l.toArray[i]?) = fun i : Nat => l[i]? := by funext i; simp
      rw [this]
      simp only [fill_of parts _ _ hf]
      rfl
    · cases h
  · cases h
theorem build_arr {t n m : Nat} {z : Array Value} {cs : List Value} {parts : List (Nat × Value)} (hz : zeroC P t = some z) (hn : (match P.underlying t with | some (.array n e) => (cellsN P e).map (n, ·) | _ => none) = some (n, m))
    (hf : fillL (fun i => some (i * m, m)) z.toList parts = some cs) :
    (Instr.build t parts.toArray).run P w = .ok (.agg cs.toArray) w := by
  split at hn
  · rename_i n' e hu
    unfold cellsN at hn
    cases hi : P.info? e with
    | none => simp [hi] at hn
    | some inf =>
      simp only [hi, Option.map_some, Option.some.injEq, Prod.mk.injEq] at hn
      obtain ⟨rfl, rfl⟩ := hn
      obtain ⟨v, hv, hvc⟩ := run_zeroC (w := w) hz
      simp [Instr.build, Sem.run_bind, hv, Result.andThen, run_underlying hu, hvc, sizeOf, typeInfo, hi, fill_of parts _ _ hf]
  · cases hn
/-- A slice's literal. -/
def reps (z : Array Value) (n : Nat) : Array Value := (Array.range n).map (fun i => z[i % z.size]!)
def slE (P : Program) (t : TypeId) : Option (Nat × Nat) := match P.underlying t with | some (.slice e) => (match cellsN P e with | some m => some (e, m) | none => none) | _ => none
theorem slE_spec {t e m : Nat} (h : slE P t = some (e, m)) : P.underlying t = some (.slice e) ∧ cellsN P e = some m := by
  unfold slE at h
  split at h
  · rename_i e' hu
    split at h
    · rename_i m' hm; cases h; exact ⟨hu, hm⟩
    · cases h
  · cases h
def repL (z : List Value) : Nat → List Value
  | 0 => []
  | n + 1 => z ++ repL z n
theorem reps_eq (z : Array Value) (len : Nat) : (reps (if len * z.size = 0 then #[] else z) (len * z.size)).toList = repL z.toList len := by
  by_cases h0 : z.size = 0
  · have : z = #[] := by simpa using h0
    subst this
    have : ∀ n, repL ([] : List Value) n = [] := by intro n; induction n with | zero => rfl | succ n ih => simp [repL, ih]
    simp [reps, this]
  · have key : ∀ n, ((List.range (n * z.size)).map fun i => z[i % z.size]!) = repL z.toList n := by
      intro n
      induction n with
      | zero => simp [repL]
      | succ n ih =>
        have : (n + 1) * z.size = z.size + n * z.size := by rw [Nat.add_mul]; omega
        rw [this, List.range_add, List.map_append, repL, ← ih]
        congr 1
        · apply List.ext_getElem
          · simp
          · intro i h1 h2
            simp at h1 h2
            simp [Nat.mod_eq_of_lt h2, h2]
        · simp only [List.map_map]
          apply List.map_congr_left
          intro i _
          simp
    by_cases hl : len * z.size = 0
    · have : len = 0 := by rcases Nat.mul_eq_zero.1 hl with h | h; exact h; exact absurd h h0
      subst this
      simp [reps, repL]
    · rw [if_neg hl]
      simp only [reps, Array.toList_map, Array.toList_range]
      exact key len
theorem buildSlice_intro {t len m e : Nat} {z : Array Value} {cs : List Value} {parts : List (Nat × Value)} (hn : slE P t = some (e, m)) (hz : zeroC P e = some z)
    (hm' : z.size = m) (hsm : len * m ≤ 16777216) (hf : fillL (fun i => some (i * m, m)) (repL z.toList len) parts = some cs)
    (h : ∀ b w', b = w.heap.size → w'.heap[b]? = some (.cells cs.toArray e (0, 0)) → w'.heap.size = w.heap.size + 1 → Upd no w w' → K (.slice (some ⟨b, 0, none⟩) len len) w') :
    opv ((Instr.buildSlice t len parts.toArray).run P w) R K := by
  obtain ⟨hu, hm⟩ := slE_spec hn
  subst hm'
  rw [← reps_eq] at hf
  have hf := fill_of parts _ _ hf
  generalize hm0 : z.size = m at *
  obtain ⟨v, hv, hvc⟩ := run_zeroC (w := w) hz
  have h1 : ¬ len * m > 2 ^ 24 := by omega
  have hr : (Instr.buildSlice t len parts.toArray).run P w = .ok (.slice (some ⟨w.heap.size, 0, none⟩) len len) { w with heap := w.heap.push (.cells cs.toArray e (0, 0)) } := by
    simp only [Instr.buildSlice, Sem.run_bind, Result.andThen, run_underlying hu, run_cellsN hm]
    rw [if_neg h1]
    by_cases h0 : len * m = 0
    · rw [if_pos h0] at hf
      rw [if_pos h0]
      simp only [reps] at hf
      simp only [Sem.run_bind, Sem.run_pure, Result.andThen, hf]
      rfl
    · rw [if_neg h0] at hf
      rw [if_neg h0]
      simp only [reps] at hf
      simp only [Sem.run_bind, Sem.run_pure, Result.andThen, hv, hvc, hf]
      rfl
  rw [hr]
  exact h _ _ rfl (by simp) (by simp) ⟨rfl, rfl, rfl, by simp, fun k hk _ => by simp [Array.getElem?_push]; omega⟩
theorem opv_run {r : Result Value} {v : Value} {w' : World} (h : r = .ok v w') (k : K v w') : opv r R K := by rw [h]; exact k
theorem opv_dec {r : Result Value} {p : Prop} [Decidable p] {w' : World} (h : r = .ok (.bool (decide p)) w') (ht : p → K (.bool true) w') (hf : ¬ p → K (.bool false) w') : opv r R K := by
  rw [h]
  by_cases hp : p
  · rw [decide_eq_true hp]; exact ht hp
  · rw [decide_eq_false hp]; exact hf hp
theorem callF_val {f : FuncId} {args : Array Value} {v : Value} {D : World → Prop} (hc : Calls P f args w fun e w' => e = .returned v ∧ D w') (h : ∀ w', D w' → K v w') : callF P f args w R K :=
  hc.mono fun e w' he => by rw [he.1]; exact h w' he.2
theorem callF_ex {f : FuncId} {args : Array Value} {D : Value → World → Prop} (hc : Calls P f args w fun e w' => ∃ v, e = .returned v ∧ D v w') (h : ∀ v w', D v w' → K v w') : callF P f args w R K :=
  hc.mono fun e w' he => by obtain ⟨v, he, hd⟩ := he; rw [he]; exact h v w' hd
theorem loop_intro {e : Env} {body : Env → Env → World → (Env → World → Prop) → Prop} (I : Env → World → Prop) (μ : Env → World → Nat) (h0 : I e w)
    (h : ∀ g w, I g w → body e g w fun g' w' => I g' w' ∧ μ g' w' < μ g w) : loop e w body := ⟨I, μ, h0, h⟩
theorem wrap_i64 {x : Int} (h1 : -9223372036854775808 ≤ x) (h2 : x ≤ 9223372036854775807) : IntKind.i64.wrap x = x := IntWalk.i64_in x ⟨h1, h2⟩
theorem wrap_i32 {x : Int} (h1 : -2147483648 ≤ x) (h2 : x ≤ 2147483647) : IntKind.i32.wrap x = x := IntWalk.i32_in x ⟨h1, h2⟩
theorem wrap_u8 {x : Int} (h1 : 0 ≤ x) (h2 : x ≤ 255) : IntKind.u8.wrap x = x := IntWalk.u8_in x ⟨h1, h2⟩
attribute [push_cast] opv_ok opu_ok gd_tt gd_ff gd_tf gd_ft gd_un pick_t pick_f nilck_some cond_t cond_f lss leq gtr geq eqI neI eqS neS addI subI mulI notB wrap_i64 wrap_i32 wrap_u8 upd_same

theorem notT : (Op.unary .not (.bool true)).run P w = .ok (.bool false) w := notB true
theorem notF : (Op.unary .not (.bool false)).run P w = .ok (.bool true) w := notB false
/-- A sum that its kind holds. -/
def inK (k : IntKind) (x : Int) : Prop := match k with
  | .i8 => -128 ≤ x ∧ x ≤ 127
  | .i16 => -32768 ≤ x ∧ x ≤ 32767
  | .i32 => -2147483648 ≤ x ∧ x ≤ 2147483647
  | .i64 => -9223372036854775808 ≤ x ∧ x ≤ 9223372036854775807
  | .u8 => 0 ≤ x ∧ x ≤ 255
  | .u16 => 0 ≤ x ∧ x ≤ 65535
  | .u32 => 0 ≤ x ∧ x ≤ 4294967295
  | .u64 => 0 ≤ x ∧ x ≤ 18446744073709551615
theorem wrap_in {k : IntKind} {x : Int} (h : inK k x) : k.wrap x = x := by
  cases k
  · exact IntWalk.i8_in x h
  · exact IntWalk.i16_in x h
  · exact IntWalk.i32_in x h
  · exact IntWalk.i64_in x h
  · exact IntWalk.u8_in x h
  · exact IntWalk.u16_in x h
  · exact IntWalk.u32_in x h
  · exact IntWalk.u64_in x h
theorem ldv_run {r : Result Value} {v : Value} {K : Value → Prop} (h : r = .ok v w) (k : K v) : ldv r w K := by rw [h]; exact ⟨rfl, k⟩
theorem bool_split {b : Bool} (ht : b = true → K (.bool true) w) (hf : b = false → K (.bool false) w) : K (.bool b) w := by
  cases b
  · exact hf rfl
  · exact ht rfl
theorem join_cut {e : Env} {A : (Env → World → Prop) → Prop} {r : Env → Env → World → Prop} (I : Env → World → Prop) (hA : ∀ J : Env → World → Prop, (∀ g w, I g w → J g w) → A J) (hr : ∀ g w, I g w → r e g w) : join e A r :=
  hA (r e) (fun g w h => hr g w h)
theorem add_i8 (t : TypeId) {x y : Int} (h : -128 ≤ x + y ∧ x + y ≤ 127) : (binOp .add t (.int .i8 x) (.int .i8 y)).run P w = .ok (.int .i8 (x + y)) w := by rw [addI, wrap_in (k := .i8) h]
theorem sub_i8 (t : TypeId) {x y : Int} (h : -128 ≤ x - y ∧ x - y ≤ 127) : (binOp .sub t (.int .i8 x) (.int .i8 y)).run P w = .ok (.int .i8 (x - y)) w := by rw [subI, wrap_in (k := .i8) h]
theorem mul_i8 (t : TypeId) {x y : Int} (h : -128 ≤ x * y ∧ x * y ≤ 127) : (binOp .mul t (.int .i8 x) (.int .i8 y)).run P w = .ok (.int .i8 (x * y)) w := by rw [mulI, wrap_in (k := .i8) h]
theorem conv_i8 {s t : TypeId} {k' : IntKind} {x : Int} (hs : (intK P s).isSome = true) (ht : intK P t = some .i8) (h : -128 ≤ x ∧ x ≤ 127) : (convert s t (.int k' x)).run P w = .ok (.int .i8 x) w := by rw [convII hs ht, wrap_in (k := .i8) h]
theorem add_i16 (t : TypeId) {x y : Int} (h : -32768 ≤ x + y ∧ x + y ≤ 32767) : (binOp .add t (.int .i16 x) (.int .i16 y)).run P w = .ok (.int .i16 (x + y)) w := by rw [addI, wrap_in (k := .i16) h]
theorem sub_i16 (t : TypeId) {x y : Int} (h : -32768 ≤ x - y ∧ x - y ≤ 32767) : (binOp .sub t (.int .i16 x) (.int .i16 y)).run P w = .ok (.int .i16 (x - y)) w := by rw [subI, wrap_in (k := .i16) h]
theorem mul_i16 (t : TypeId) {x y : Int} (h : -32768 ≤ x * y ∧ x * y ≤ 32767) : (binOp .mul t (.int .i16 x) (.int .i16 y)).run P w = .ok (.int .i16 (x * y)) w := by rw [mulI, wrap_in (k := .i16) h]
theorem conv_i16 {s t : TypeId} {k' : IntKind} {x : Int} (hs : (intK P s).isSome = true) (ht : intK P t = some .i16) (h : -32768 ≤ x ∧ x ≤ 32767) : (convert s t (.int k' x)).run P w = .ok (.int .i16 x) w := by rw [convII hs ht, wrap_in (k := .i16) h]
theorem add_i32 (t : TypeId) {x y : Int} (h : -2147483648 ≤ x + y ∧ x + y ≤ 2147483647) : (binOp .add t (.int .i32 x) (.int .i32 y)).run P w = .ok (.int .i32 (x + y)) w := by rw [addI, wrap_in (k := .i32) h]
theorem sub_i32 (t : TypeId) {x y : Int} (h : -2147483648 ≤ x - y ∧ x - y ≤ 2147483647) : (binOp .sub t (.int .i32 x) (.int .i32 y)).run P w = .ok (.int .i32 (x - y)) w := by rw [subI, wrap_in (k := .i32) h]
theorem mul_i32 (t : TypeId) {x y : Int} (h : -2147483648 ≤ x * y ∧ x * y ≤ 2147483647) : (binOp .mul t (.int .i32 x) (.int .i32 y)).run P w = .ok (.int .i32 (x * y)) w := by rw [mulI, wrap_in (k := .i32) h]
theorem conv_i32 {s t : TypeId} {k' : IntKind} {x : Int} (hs : (intK P s).isSome = true) (ht : intK P t = some .i32) (h : -2147483648 ≤ x ∧ x ≤ 2147483647) : (convert s t (.int k' x)).run P w = .ok (.int .i32 x) w := by rw [convII hs ht, wrap_in (k := .i32) h]
theorem add_i64 (t : TypeId) {x y : Int} (h : -9223372036854775808 ≤ x + y ∧ x + y ≤ 9223372036854775807) : (binOp .add t (.int .i64 x) (.int .i64 y)).run P w = .ok (.int .i64 (x + y)) w := by rw [addI, wrap_in (k := .i64) h]
theorem sub_i64 (t : TypeId) {x y : Int} (h : -9223372036854775808 ≤ x - y ∧ x - y ≤ 9223372036854775807) : (binOp .sub t (.int .i64 x) (.int .i64 y)).run P w = .ok (.int .i64 (x - y)) w := by rw [subI, wrap_in (k := .i64) h]
theorem mul_i64 (t : TypeId) {x y : Int} (h : -9223372036854775808 ≤ x * y ∧ x * y ≤ 9223372036854775807) : (binOp .mul t (.int .i64 x) (.int .i64 y)).run P w = .ok (.int .i64 (x * y)) w := by rw [mulI, wrap_in (k := .i64) h]
theorem conv_i64 {s t : TypeId} {k' : IntKind} {x : Int} (hs : (intK P s).isSome = true) (ht : intK P t = some .i64) (h : -9223372036854775808 ≤ x ∧ x ≤ 9223372036854775807) : (convert s t (.int k' x)).run P w = .ok (.int .i64 x) w := by rw [convII hs ht, wrap_in (k := .i64) h]
theorem add_u8 (t : TypeId) {x y : Int} (h : 0 ≤ x + y ∧ x + y ≤ 255) : (binOp .add t (.int .u8 x) (.int .u8 y)).run P w = .ok (.int .u8 (x + y)) w := by rw [addI, wrap_in (k := .u8) h]
theorem sub_u8 (t : TypeId) {x y : Int} (h : 0 ≤ x - y ∧ x - y ≤ 255) : (binOp .sub t (.int .u8 x) (.int .u8 y)).run P w = .ok (.int .u8 (x - y)) w := by rw [subI, wrap_in (k := .u8) h]
theorem mul_u8 (t : TypeId) {x y : Int} (h : 0 ≤ x * y ∧ x * y ≤ 255) : (binOp .mul t (.int .u8 x) (.int .u8 y)).run P w = .ok (.int .u8 (x * y)) w := by rw [mulI, wrap_in (k := .u8) h]
theorem conv_u8 {s t : TypeId} {k' : IntKind} {x : Int} (hs : (intK P s).isSome = true) (ht : intK P t = some .u8) (h : 0 ≤ x ∧ x ≤ 255) : (convert s t (.int k' x)).run P w = .ok (.int .u8 x) w := by rw [convII hs ht, wrap_in (k := .u8) h]
theorem add_u16 (t : TypeId) {x y : Int} (h : 0 ≤ x + y ∧ x + y ≤ 65535) : (binOp .add t (.int .u16 x) (.int .u16 y)).run P w = .ok (.int .u16 (x + y)) w := by rw [addI, wrap_in (k := .u16) h]
theorem sub_u16 (t : TypeId) {x y : Int} (h : 0 ≤ x - y ∧ x - y ≤ 65535) : (binOp .sub t (.int .u16 x) (.int .u16 y)).run P w = .ok (.int .u16 (x - y)) w := by rw [subI, wrap_in (k := .u16) h]
theorem mul_u16 (t : TypeId) {x y : Int} (h : 0 ≤ x * y ∧ x * y ≤ 65535) : (binOp .mul t (.int .u16 x) (.int .u16 y)).run P w = .ok (.int .u16 (x * y)) w := by rw [mulI, wrap_in (k := .u16) h]
theorem conv_u16 {s t : TypeId} {k' : IntKind} {x : Int} (hs : (intK P s).isSome = true) (ht : intK P t = some .u16) (h : 0 ≤ x ∧ x ≤ 65535) : (convert s t (.int k' x)).run P w = .ok (.int .u16 x) w := by rw [convII hs ht, wrap_in (k := .u16) h]
theorem add_u32 (t : TypeId) {x y : Int} (h : 0 ≤ x + y ∧ x + y ≤ 4294967295) : (binOp .add t (.int .u32 x) (.int .u32 y)).run P w = .ok (.int .u32 (x + y)) w := by rw [addI, wrap_in (k := .u32) h]
theorem sub_u32 (t : TypeId) {x y : Int} (h : 0 ≤ x - y ∧ x - y ≤ 4294967295) : (binOp .sub t (.int .u32 x) (.int .u32 y)).run P w = .ok (.int .u32 (x - y)) w := by rw [subI, wrap_in (k := .u32) h]
theorem mul_u32 (t : TypeId) {x y : Int} (h : 0 ≤ x * y ∧ x * y ≤ 4294967295) : (binOp .mul t (.int .u32 x) (.int .u32 y)).run P w = .ok (.int .u32 (x * y)) w := by rw [mulI, wrap_in (k := .u32) h]
theorem conv_u32 {s t : TypeId} {k' : IntKind} {x : Int} (hs : (intK P s).isSome = true) (ht : intK P t = some .u32) (h : 0 ≤ x ∧ x ≤ 4294967295) : (convert s t (.int k' x)).run P w = .ok (.int .u32 x) w := by rw [convII hs ht, wrap_in (k := .u32) h]
theorem add_u64 (t : TypeId) {x y : Int} (h : 0 ≤ x + y ∧ x + y ≤ 18446744073709551615) : (binOp .add t (.int .u64 x) (.int .u64 y)).run P w = .ok (.int .u64 (x + y)) w := by rw [addI, wrap_in (k := .u64) h]
theorem sub_u64 (t : TypeId) {x y : Int} (h : 0 ≤ x - y ∧ x - y ≤ 18446744073709551615) : (binOp .sub t (.int .u64 x) (.int .u64 y)).run P w = .ok (.int .u64 (x - y)) w := by rw [subI, wrap_in (k := .u64) h]
theorem mul_u64 (t : TypeId) {x y : Int} (h : 0 ≤ x * y ∧ x * y ≤ 18446744073709551615) : (binOp .mul t (.int .u64 x) (.int .u64 y)).run P w = .ok (.int .u64 (x * y)) w := by rw [mulI, wrap_in (k := .u64) h]
theorem conv_u64 {s t : TypeId} {k' : IntKind} {x : Int} (hs : (intK P s).isSome = true) (ht : intK P t = some .u64) (h : 0 ≤ x ∧ x ≤ 18446744073709551615) : (convert s t (.int k' x)).run P w = .ok (.int .u64 x) w := by rw [convII hs ht, wrap_in (k := .u64) h]
theorem gdtt {op : (Value → World → Prop) → Prop} (h : op K) : gd (.bool true) true op w K := h
theorem gdff {op : (Value → World → Prop) → Prop} (h : op K) : gd (.bool false) false op w K := h
theorem gdtf {op : (Value → World → Prop) → Prop} (h : K undef w) : gd (.bool true) false op w K := h
theorem gdft {op : (Value → World → Prop) → Prop} (h : K undef w) : gd (.bool false) true op w K := h
theorem gdun {want : Bool} {op : (Value → World → Prop) → Prop} (h : K undef w) : gd undef want op w K := h
theorem pickt {a b : Value} (h : K a w) : pick (.bool true) a b w K := h
theorem pickf {a b : Value} (h : K b w) : pick (.bool false) a b w K := h
theorem nilckp {a : Addr} (h : K (.pointer (some a)) w) : nilck (.pointer (some a)) w K := h
theorem condt {A B : Prop} (h : A) : cond (.bool true) A B := h
theorem condf {A B : Prop} (h : B) : cond (.bool false) A B := h
end Go.Sh
