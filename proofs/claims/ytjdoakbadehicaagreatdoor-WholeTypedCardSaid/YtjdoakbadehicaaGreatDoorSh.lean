/-
  The shallow form of a loaded function: a body of the loaded program, carried over its slots, comes to a proposition in which values are variables, and a theorem that this proposition gives the call's contract. No condition.
-/
import Derived.WalkKit
import Derived.Deep.Quiet
import Derived.StillTail
import Derived.RangeFuncRecord
import Derived.Sort.LoopGhostIn
namespace Go.Sh
open Go

abbrev Env := Nat → Value
def upd (e : Env) (d : Nat) (v : Value) : Env := fun s => match Nat.beq s d with | true => v | false => e s
def memN : List Nat → Nat → Bool
  | [], _ => false
  | x :: xs, s => match Nat.beq x s with | true => true | false => memN xs s
def mix (ms : List Nat) (g e : Env) : Env := fun s => match memN ms s with | true => g s | false => e s
def put (e : Env) (d : Option Nat) (v : Value) : Env := match d with | none => e | some d => upd e d v
def putk (kp : List Nat) (e : Env) (d : Option Nat) (v : Value) : Env := match d with | none => e | some d => match memN kp d with | true => upd e d v | false => e
def rd (n : Nat) (e : Env) (t : Nat) : Value := match Nat.blt t n with | true => e t | false => undef
def ev (n : Nat) (e : Env) : Operand → Value
  | .tmp t => rd n e t
  | .const v => v
  | .global g => .pointer (some ⟨g, 0, none⟩)
  | .func f => .func (.func f) #[] #[]

/-! ### The words -/
def opv (r : Result Value) (R : Ending → World → Prop) (K : Value → World → Prop) : Prop :=
  match r with
  | .ok v w => K v w
  | .halt (.panic v) w => R (.panicked [{ v, recovered := false }]) w
  | _ => False
def opu (r : Result Unit) (R : Ending → World → Prop) (K : Value → World → Prop) : Prop :=
  match r with
  | .ok _ w => K undef w
  | .halt (.panic v) w => R (.panicked [{ v, recovered := false }]) w
  | _ => False
def callF (P : Program) (f : FuncId) (args : Array Value) (w : World) (R : Ending → World → Prop) (K : Value → World → Prop) : Prop :=
  Calls P f args w fun | .returned v, w' => K v w' | .panicked c, w' => R (.panicked c) w' | .outgrown, _ => False
def callV (P : Program) (f : Value) (args : Array Value) (w : World) (R : Ending → World → Prop) (K : Value → World → Prop) : Prop :=
  match f with
  | .func (.func g) first cap => ((P.funcs[g]?).any fun fn => fn.body.isSome && !(fn.name == "runtime.NumGoroutine")) = true ∧ callF P g (first ++ args ++ cap) w R K
  | _ => False
def gd (v : Value) (want : Bool) (op : (Value → World → Prop) → Prop) (w : World) (K : Value → World → Prop) : Prop :=
  match v with
  | .bool b => match b == want with | true => op K | false => K undef w
  | _ => K undef w
def pick (c a b : Value) (w : World) (K : Value → World → Prop) : Prop :=
  match c with
  | .bool t => K (match t with | true => a | false => b) w
  | _ => False
def nilck (x : Value) (w : World) (K : Value → World → Prop) : Prop :=
  match x with
  | .pointer (some a) => K (.pointer (some a)) w
  | _ => False
def cond (v : Value) (A B : Prop) : Prop :=
  match v with
  | .bool true => A
  | .bool false => B
  | _ => False
def join (e : Env) (A : (Env → World → Prop) → Prop) (r : Env → Env → World → Prop) : Prop := A (r e)
def loop (e : Env) (w : World) (body : Env → Env → World → (Env → World → Prop) → Prop) : Prop :=
  ∃ (I : Env → World → Prop) (μ : Env → World → Nat), I e w ∧ ∀ g w, I g w → body e g w fun g' w' => I g' w' ∧ μ g' w' < μ g w
def noR : Ending → World → Prop := fun _ _ => False
/-- A call of a function's value; of the yield of a range over a function too. -/
def CallsV (P : Program) (f : Value) (args : Array Value) (w : World) (R : Ending → World → Prop) : Prop :=
  match f with
  | .func (.func g) first cap => ((P.funcs[g]?).any fun fn => fn.body.isSome && !(fn.name == "runtime.NumGoroutine")) = true ∧ Calls P g (first ++ args ++ cap) w R
  | .func (.yield l) first cap => first = #[] ∧ cap = #[] ∧ ∃ fn tmps assign body, (Instr.yield l args).run P w = .ok (.round l fn tmps assign body) w ∧ RoundIn Fence.wide 0 P l fn tmps assign body w R
  | _ => False
def callY (P : Program) (f : Value) (args : Array Value) (w : World) (R : Ending → World → Prop) (K : Value → World → Prop) : Prop :=
  CallsV P f args w fun | .returned v, w' => K v w' | .panicked c, w' => R (.panicked c) w' | .outgrown, _ => False
/-! A range over a function: its loop's record lies in block l; between rounds 'Rdy', within one 'Bsy', where round x has left it 'Dn x' (0: by 'return', i + 1: to the end of block i). -/
def mkS : Nat := 1000000
def mkV (D : Nat) (v : Value) : Value := match v with | .tuple vs => .tuple (#[.int .u64 D] ++ vs) | _ => .tuple #[.int .u64 D]
def mkD (v : Value) : List Nat := match v with | .tuple vs => vs.toList.map fun x => (RowKit.intOf x).toNat | _ => []
def Chg (l : Nat) (w w' : World) : Prop := ∃ o, w' = { w with heap := w.heap.setIfInBounds l o }
def lpB : Obj → Bool
  | .loop _ => true
  | _ => false
def midR (l : Nat) (Rdy Bsy : Obj) (C : World → Prop) (w : World) : Prop := w.heap[l]? = some Rdy ∧ ∀ w', Chg l w w' → w'.heap[l]? = some Bsy → C w'
def finR (l : Nat) (Rdy Bsy : Obj) (Dn : Nat → Obj) (Q : Bool → World → Prop) (x : Exit) (w : World) : Prop := w.heap[l]? = some Bsy ∧ ∀ w', Chg l w w' →
  match x with
  | .normal => w'.heap[l]? = some Rdy → Q true w'
  | .ret => w'.heap[l]? = some (Dn 0) → Q false w'
  | .exit i => w'.heap[l]? = some (Dn (i + 1)) → Q false w'
  | _ => False
def rangeF (P : Program) (gv : Value) (np : Nat) (w : World) (rnd : Nat → List Value → World → ((World → Prop) → World → Prop) → (Exit → World → Prop) → Prop)
    (kn : Nat → World → Prop) (kx : List (Nat × (Nat → World → Prop))) : Prop :=
  match gv with
  | .func (.func gf) first lb => ((P.funcs[gf]?).any fun fn => fn.body.isSome && !(fn.name == "runtime.NumGoroutine")) = true ∧
    ∀ (w1 : World) (l D : Nat) (Rdy Bsy : Obj) (Dn : Nat → Obj) (y : Value), D = w.heap.size → l = D + 1 → RowKit.Below w.heap.size w w1 → w1.heap.size = D + 2 →
      w1.heap[D]? = some (.deferred (some [])) → w1.heap[l]? = some Rdy → lpB Rdy = true → lpB Bsy = true → (∀ i, lpB (Dn i) = true) →
      (∀ xs w2 (Q : Bool → World → Prop), xs.length = np → w2.heap[l]? = some Rdy → rnd l xs w2 (midR l Rdy Bsy) (finR l Rdy Bsy Dn Q) →
        CallsV P y xs.toArray w2 fun e w' => match e with | .returned (.bool b) => Q b w' | _ => False) →
      Calls P gf (first ++ #[y] ++ lb) w1 fun e w2 => (∃ v, e = .returned v) ∧
        ((w2.heap[l]? = some Rdy ∧ ∀ w3, Chg l w2 w3 → kn D w3) ∨ ∃ i k, (i, k) ∈ kx ∧ w2.heap[l]? = some (Dn i) ∧ ∀ w3, Chg l w2 w3 → k D w3)
  | _ => False
/-- Within a round of the loop of record l0: no mark of its own. -/
def rangeN (P : Program) (gv : Value) (np l0 : Nat) (w : World) (rnd : Nat → List Value → World → ((World → Prop) → World → Prop) → (Exit → World → Prop) → Prop)
    (kn : World → Prop) (kx : List (Nat × (World → Prop))) : Prop :=
  match gv with
  | .func (.func gf) first lb => ((P.funcs[gf]?).any fun fn => fn.body.isSome && !(fn.name == "runtime.NumGoroutine")) = true ∧ (∃ r0, w.heap[l0]? = some (.loop r0)) ∧
    ∀ (w1 : World) (l : Nat) (Rdy Bsy : Obj) (Dn : Nat → Obj) (y : Value), l = w.heap.size → RowKit.Below w.heap.size w w1 → w1.heap.size = l + 1 →
      w1.heap[l]? = some Rdy → lpB Rdy = true → lpB Bsy = true → (∀ i, lpB (Dn i) = true) →
      (∀ xs w2 (Q : Bool → World → Prop), xs.length = np → w2.heap[l]? = some Rdy → rnd l xs w2 (midR l Rdy Bsy) (finR l Rdy Bsy Dn Q) →
        CallsV P y xs.toArray w2 fun e w' => match e with | .returned (.bool b) => Q b w' | _ => False) →
      Calls P gf (first ++ #[y] ++ lb) w1 fun e w2 => (∃ v, e = .returned v) ∧
        ((w2.heap[l]? = some Rdy ∧ ∀ w3, Chg l w2 w3 → kn w3) ∨ ∃ i k, (i, k) ∈ kx ∧ w2.heap[l]? = some (Dn i) ∧ ∀ w3, Chg l w2 w3 → k w3)
  | _ => False
/-- The marks of such loops, taken up at the return. -/
def leaveM : List Nat → World → (World → Prop) → Prop
  | [], w, K => K w
  | D :: Ds, w, K => w.heap[D]? = some (.deferred (some [])) ∧ ∀ w', Chg D w w' → leaveM Ds w' K
def noP (R : Ending → World → Prop) : Ending → World → Prop
  | .panicked _, _ => False
  | e, w => R e w
/-- '==' and '!=' with the look ahead of them; 'c': is one side written as a constant? -/
def isC : Operand → Bool
  | .const _ => true
  | _ => false
def binE (c : Bool) (op : BinOp) (t : TypeId) (a b : Value) : Sem Value := do
  eqGuard op t (match c with | true => .const undef | false => .tmp 0) (.tmp 0) a b
  binOp op t a b
/-- Behind it every block that was there is as it was. -/
abbrev Ext (w w' : World) : Prop := RowKit.Below w.heap.size w w'
structure Moves (T : World → World → Prop) : Prop where
  refl : ∀ w, T w w
  trans : ∀ {a b c}, T a b → T b c → T a c
  ext : ∀ {a b}, Ext a b → T a b
/-- A region that draws its order; 'T': how its operations may move the world. -/
def drawn (w : World) (A : (World → World → Prop) → World → Prop) : Prop := ∃ T, Moves T ∧ A T { w with drawn := w.drawn + 1 }
/-- An operation that yields one value wherever it comes up. -/
def qop (T : World → World → Prop) (w : World) (op : World → (Value → World → Prop) → Prop) (K : Value → Prop) : Prop :=
  ∃ v, (∀ w', T w w' → op w' fun u w'' => u = v ∧ Ext w' w'') ∧ K v
/-- An operation that makes or writes memory, while others may still come up. -/
def lop (T : World → World → Prop) (w : World) (op : World → (Value → World → Prop) → Prop) (K : Value → World → Prop) : Prop := op w fun v w' => T w w' ∧ K v w'
def ext (w : World) (K : World → Prop) : Prop := ∀ w', Ext w w' → K w'

/-! ### From the code -/
def calleeOk (P : Program) (g : FuncId) : Bool := (P.funcs[g]?).any fun fn => fn.body.isSome && !(fn.name == "runtime.NumGoroutine")
def evs (n : Nat) (e : Env) : List Operand → List Value
  | [] => []
  | x :: xs => ev n e x :: evs n e xs
def evps (n : Nat) (e : Env) : List (Nat × Operand) → List (Nat × Value)
  | [] => []
  | x :: xs => (x.1, ev n e x.2) :: evps n e xs
def evo (n : Nat) (e : Env) : Option Operand → Option Value
  | none => none
  | some x => some (ev n e x)

/-- One operation (its guard aside). -/
def shOp (P : Program) (n : Nat) (R : Ending → World → Prop) (yl : Bool) (o : Oper) (e : Env) (w : World) (K : Value → World → Prop) : Prop :=
  match o.op with
  | .move x | .assign x => K (ev n e x) w
  | .pick c a b => pick (ev n e c) (ev n e a) (ev n e b) w K
  | .alloc t => opv ((Instr.alloc t true (.tuple #[])).run P w) R K
  | .box t x => opv ((Instr.box t (ev n e x)).run P w) R K
  | .build t ps => opv ((Instr.build t (evps n e ps.toList).toArray).run P w) R K
  | .buildSlice t l ps => opv ((Instr.buildSlice t l (evps n e ps.toList).toArray).run P w) R K
  | .load t a => opv ((Instr.loadAt t (ev n e a)).run P w) R K
  | .store t a x => opu ((Instr.storeAt t (ev n e a) (ev n e x)).run P w) R K
  | .nilCheck x => nilck (ev n e x) w K
  | .binOp op t x y _ =>
    match op with
    | .eql | .neq => opv ((binE (isC x || isC y) op t (ev n e x) (ev n e y)).run P w) R K
    | op => opv ((binOp op t (ev n e x) (ev n e y)).run P w) R K
  | .unOp op _ x => opv ((Op.unary op (ev n e x)).run P w) R K
  | .convert s d x => opv ((convert s d (ev n e x)).run P w) R K
  | .sliceToArrayPointer t x => opv ((Instr.arrayAt t (ev n e x)).run P w) R K
  | .makeInterface t x => opv ((Instr.makeInterface t (ev n e x)).run P w) R K
  | .makeFunc fn a b => opv ((Instr.makeFunc fn (evs n e a.toList).toArray (evs n e b.toList).toArray).run P w) R K
  | .makeMap t r => opv ((Instr.makeMap t (evo n e r)).run P w) R K
  | .makeChan t s => opv ((Instr.makeChan t (ev n e s)).run P w) R K
  | .makeSlice t l c => opv ((Instr.makeSlice t (ev n e l) (ev n e c)).run P w) R K
  | .slice t x lo hi mx => opv ((Instr.sliceAt t (ev n e x) (evo n e lo) (evo n e hi) (evo n e mx)).run P w) R K
  | .fieldAddr t x f => opv ((Instr.fieldAt t (ev n e x) f).run P w) R K
  | .field t x f => opv ((Instr.field t (ev n e x) f).run P w) R K
  | .indexAddr t x i => opv ((Instr.indexAt t (ev n e x) (ev n e i)).run P w) R K
  | .index t x i => opv ((Instr.index t (ev n e x) (ev n e i)).run P w) R K
  | .lookup t x i c => opv ((Instr.lookup t (ev n e x) (ev n e i) c).run P w) R K
  | .mapUpdate t m k x | .insert t m k x => opu ((Instr.mapUpdate t (ev n e m) (ev n e k) (ev n e x)).run P w) R K
  | .mapEntry t m k => opv ((Instr.mapEntry t (ev n e m) (ev n e k)).run P w) R K
  | .entryStore t m s x => opu ((Instr.entryStore t (ev n e m) (ev n e s) (ev n e x)).run P w) R K
  | .range t x => opv ((Instr.range t (ev n e x)).run P w) R K
  | .next it s => opv ((Instr.next (ev n e it) s o.type).run P w) R K
  | .entry it => opv ((Instr.entry (ev n e it)).run P w) R K
  | .typeAssert x t a c => opv ((Instr.typeAssert (ev n e x) t a c).run P w) R K
  | .extract t i => opv ((Instr.extract (ev n e t) i).run P w) R K
  | .panic x => opv ((Instr.panic (ev n e x)).run P w) R K
  | .call c =>
    match c.callee with
    | .value (.func g) => match calleeOk P g with | true => callF P g (evs n e c.args.toList).toArray w R K | false => False
    | .value f => match yl with | true => callY P (ev n e f) (evs n e c.args.toList).toArray w R K | false => callV P (ev n e f) (evs n e c.args.toList).toArray w R K
    | .builtin .append => opv ((Builtin.append_ c.argTypes o.type (evs n e c.args.toList).toArray).run P w) R K
    | .builtin .len => opv ((Builtin.len_ c.argTypes o.type (evs n e c.args.toList).toArray).run P w) R K
    | .builtin .cap => opv ((Builtin.cap_ c.argTypes o.type (evs n e c.args.toList).toArray).run P w) R K
    | .builtin .copy => opv ((Builtin.copy_ c.argTypes o.type (evs n e c.args.toList).toArray).run P w) R K
    | .builtin .clear => opv ((Builtin.clear_ c.argTypes o.type (evs n e c.args.toList).toArray).run P w) R K
    | .builtin .delete => opv ((Builtin.delete_ c.argTypes o.type (evs n e c.args.toList).toArray).run P w) R K
    | .builtin .min => opv ((Builtin.min_ c.argTypes o.type (evs n e c.args.toList).toArray).run P w) R K
    | .builtin .max => opv ((Builtin.max_ c.argTypes o.type (evs n e c.args.toList).toArray).run P w) R K
    | .builtin .close => opv ((Builtin.close_ c.argTypes o.type (evs n e c.args.toList).toArray).run P w) R K
    | .builtin .unsafeSliceData => opv ((Builtin.unsafeSliceData_ c.argTypes o.type (evs n e c.args.toList).toArray).run P w) R K
    | .builtin .unsafeString => opv ((Builtin.unsafeString_ c.argTypes o.type (evs n e c.args.toList).toArray).run P w) R K
    | .builtin .unsafeStringData => opv ((Builtin.unsafeStringData_ c.argTypes o.type (evs n e c.args.toList).toArray).run P w) R K
    | .builtin .unsafeSlice => opv ((Builtin.unsafeSlice_ c.argTypes o.type (evs n e c.args.toList).toArray).run P w) R K
    | _ => False
  | _ => False

def slotOf (all : Array Oper) (j : Nat) : Option Nat := match all[j]? with | some o => o.dst | none => none
/-- One operation with its guard. -/
def shG (P : Program) (n : Nat) (R : Ending → World → Prop) (yl : Bool) (all : Array Oper) (o : Oper) (e : Env) (w : World) (K : Value → World → Prop) : Prop :=
  match o.guard with
  | none => shOp P n R yl o e w K
  | some (j, want) =>
    match slotOf all j with
    | some t => gd (rd n e t) want (fun K' => shOp P n R yl o e w K') w K
    | none => K undef w
def shOps (P : Program) (n : Nat) (kp : List Nat) (R : Ending → World → Prop) (all : Array Oper) (K : Env → World → Prop) : List Oper → Env → Env → World → Prop
  | [], _, ek, w => K ek w
  | o :: os, e, ek, w => shG P n R true all o e w fun v w' => shOps P n kp R all K os (put e o.dst v) (putk kp ek o.dst v) w'
/-- The slots that an operation looks at. -/
def looks (all : Array Oper) (o : Oper) : List Nat :=
  (o.op.operands.toList.filterMap fun | .tmp t => some t | _ => none) ++ (match o.guard with | some (j, _) => (slotOf all j).toList | none => [])
def allIn (kp W : List Nat) : List Nat → Bool
  | [] => true
  | t :: ts => match memN kp t with | true => allIn kp W ts | false => match memN W t with | true => allIn kp W ts | false => false
def dstOk (o : Option Nat) : Bool := match o with | some d => (match Nat.beq d mkS with | true => false | false => true) | none => true
def readsOk (kp : List Nat) (all : Array Oper) : List Nat → List Oper → Bool
  | _, [] => true
  | W, o :: os => match allIn kp W (looks all o), dstOk o.dst with | true, true => readsOk kp all (match o.dst with | some d => d :: W | none => W) os | _, _ => false
def isSel (o : Oper) : Bool := match o.op with | .select .. => true | .defer .. => true | _ => false
def noSel : List Oper → Bool
  | [] => true
  | o :: os => match isSel o with | true => false | false => noSel os

/-- May a value of the type hold an address? -/
def refT (P : Program) : Nat → TypeId → Bool
  | 0, _ => true
  | f + 1, t => match P.underlying t with
    | some (.slice _) => true
    | some (.pointer _) => true
    | some (.map _ _) => true
    | some (.struct fs) => fs.toList.any fun x => refT P f x.type
    | some (.array _ e) => refT P f e
    | some (.int _) => false
    | some .bool => false
    | some .string => false
    | _ => true
/-- Functions that write what they are handed. -/
def loudNames : List String := ["(*greenscreen/plane.Plane).Set", "(*greenscreen/plane.Plane).Point", "(*greenscreen/plane.Plane).Fill", "(*greenscreen/plane.Plane).Clear", "greenscreen/field.Mark", "greenscreen/field.Unmark", "greenscreen/field.modify", "(*greenscreen/grammar.reader).next", "(*greenscreen/grammar.reader).place", "(*greenscreen/grammar.reader).cell", "greenscreen/keyboard.move", "(*greenscreen/keyboard.Keyboard).edit", "(*greenscreen/lock.Lock).Fail", "greenscreen/typing.Put", "greenscreen/caret.to", "greenscreen/paint.Paint", "(*greenscreen/screen.Screen).write"]
def loudF (P : Program) (g : FuncId) : Bool := match P.funcs[g]? with
  | some fn => (fn.resultTypes.toList.any fun t => refT P 4 t) || loudNames.any fun x => fn.name == x
  | none => false
/-- Which operations may make or write memory. -/
def loud (P : Program) (o : Oper) : Bool :=
  match o.op with
  | .alloc _ | .box .. | .buildSlice .. | .store .. | .makeMap .. | .makeChan .. | .makeSlice .. | .mapUpdate .. | .insert .. | .mapEntry .. | .entryStore .. | .range .. | .next .. | .entry _ | .panic _ | .makeFunc .. => true
  | .convert _ t _ => match P.underlying t with | some (.slice _) => true | _ => false
  | .call c => match c.callee with
    | .builtin .len | .builtin .cap | .builtin .min | .builtin .max => false
    | .builtin _ => true
    | .value (.func g) => loudF P g
    | .value _ => true
    | _ => false
  | _ => false
/-- An order for a region that draws: what is quiet first, what is loud when nothing else may come. -/
def firstQ (P : Program) (ops : Array Oper) : List Nat → Option Nat
  | [] => none
  | i :: is => match ops[i]? with
    | some o => (match loud P o with | false => some i | true => firstQ P ops is)
    | none => none
def canon (P : Program) (ops : Array Oper) : Nat → Array Bool → Option (List Nat)
  | 0, listed => match Region.ready .any ops listed with | [] => some [] | _ => none
  | f + 1, listed => match firstQ P ops (Region.ready .any ops listed) with
    | some i => (match Region.free .any ops listed i with
      | true => (match canon P ops f (listed.setIfInBounds i true) with | some l => some (i :: l) | none => none)
      | false => none)
    | none => match Region.ready .any ops listed with
      | [k] => (match canon P ops f (listed.setIfInBounds k true) with | some l => some (k :: l) | none => none)
      | _ => none
def opsAt (ops : Array Oper) : List Nat → Option (List Oper)
  | [] => some []
  | i :: is => match ops[i]?, opsAt ops is with | some o, some l => some (o :: l) | _, _ => none
/-- Does every other operation wait for number j, or j for it? -/
def cmpB (ops : Array Oper) (j : Nat) : Bool := (List.range ops.size).all fun i => Nat.beq i j || (Region.waitsFor .any ops j i || Region.waitsFor .any ops i j)
/-- The walk of a region that draws, in that order; with each operation its number. -/
def shD (P : Program) (n : Nat) (kp : List Nat) (R : Ending → World → Prop) (all : Array Oper) (T : World → World → Prop) (K : Env → World → Prop) : List Nat → List Oper → Env → Env → World → Prop
  | i :: is, o :: os, e, ek, w =>
    match loud P o with
    | true => (match cmpB all i with
      | true => ext w fun w => shG P n R true all o e w fun v w' => shD P n kp R all T K is os (put e o.dst v) (putk kp ek o.dst v) w'
      | false => ext w fun w => shG P n R true all o e w fun v w' => T w w' ∧ shD P n kp R all T K is os (put e o.dst v) (putk kp ek o.dst v) w')
    | false =>
      match o.guard, o.op with
      | none, .move x => shD P n kp R all T K is os (put e o.dst (ev n e x)) (putk kp ek o.dst (ev n e x)) w
      | none, .assign x => shD P n kp R all T K is os (put e o.dst (ev n e x)) (putk kp ek o.dst (ev n e x)) w
      | _, _ => qop T w (fun w K' => shG P n noR false all o e w K') fun v => shD P n kp R all T K is os (put e o.dst v) (putk kp ek o.dst v) w
  | _, _, _, ek, w => ext w fun w => K ek w
def shRegion (P : Program) (n : Nat) (kp : List Nat) (R : Ending → World → Prop) (ops : Array Oper) (draw : Bool) (K : Env → World → Prop) (e : Env) (w : World) : Prop :=
  match draw with
  | false => match readsOk kp ops [] ops.toList, noSel ops.toList with
    | true, true => shOps P n kp R ops K ops.toList e e w
    | _, _ => False
  | true =>
    match P.follows .mixedOrders, canon P ops ops.size (Array.replicate ops.size false) with
    | true, some is => (match opsAt ops is with
      | some l => (match readsOk kp ops [] l, noSel ops.toList with
        | true, true => drawn w fun T w => shD P n kp R ops T K is l e e w
        | _, _ => False)
      | none => False)
    | _, _ => False

def insN (x : Nat) (l : List Nat) : List Nat := match memN l x with | true => l | false => x :: l
def modsOps (kp : List Nat) : List Oper → List Nat
  | [] => []
  | o :: os => match o.dst with
    | some d => (match memN kp d with | true => insN d (modsOps kp os) | false => modsOps kp os)
    | none => modsOps kp os
def union : List Nat → List Nat → List Nat
  | [], l => l
  | x :: xs, l => insN x (union xs l)
def mods (kp : List Nat) : Code → List Nat
  | .region _ ops _ => modsOps kp ops.toList
  | .seq a b => union (mods kp a) (mods kp b)
  | .cond _ a b => union (mods kp a) (mods kp b)
  | .block _ c => mods kp c
  | .loop c => mods kp c
  | .rangeFunc .. => [mkS]
  | _ => []

def nrm (k : Exit → Env → World → Prop) (j : Env → World → Prop) : Exit → Env → World → Prop
  | .normal, e, w => j e w
  | x, e, w => k x e w
def blk (id : Nat) (k : Exit → Env → World → Prop) : Exit → Env → World → Prop
  | .exit i, e, w => match Nat.beq i id with | true => k .normal e w | false => k (.exit i) e w
  | x, e, w => k x e w
/-- How many ways lead out to block 'id'; how many to what comes next; is there a loop? -/
def xe (id : Nat) : Code → Nat
  | .exit i => match Nat.beq i id with | true => 1 | false => 0
  | .seq a b => xe id a + xe id b
  | .cond _ a b => xe id a + xe id b
  | .block _ c => xe id c
  | .loop c => xe id c
  | _ => 0
def ne : Code → Nat
  | .skip => 1
  | .region .. => 1
  | .seq a b => match ne a with | 0 => 0 | _ => ne b
  | .cond _ a b => ne a + ne b
  | .block id c => ne c + xe id c
  | _ => 0
/-- The ways by which a round leaves the loop: 0 'return', i + 1 to the end of block i. -/
def delN (x : Nat) : List Nat → List Nat
  | [] => []
  | y :: ys => match Nat.beq x y with | true => delN x ys | false => y :: delN x ys
def exs : Code → List Nat
  | .ret => [0]
  | .exit i => [i + 1]
  | .seq a b => union (exs a) (exs b)
  | .cond _ a b => union (exs a) (exs b)
  | .block i c => delN (i + 1) (exs c)
  | .loop c => exs c
  | .rangeFunc _ _ _ c => exs c
  | _ => []
def exitOf : Nat → Exit
  | 0 => .ret
  | i + 1 => .exit i
def calmC : Code → Bool
  | .rangeFunc .. => false
  | .seq a b => match calmC a with | true => calmC b | false => false
  | .cond _ a b => match calmC a with | true => calmC b | false => false
  | .block _ c => calmC c
  | .loop c => calmC c
  | _ => true
def psOk : List Nat → Bool
  | [] => true
  | p :: ps => match dstOk (some p) with | true => psOk ps | false => false
def bindP : Nat → List Nat → List Value → Env → Env
  | _, [], _, e => e
  | i, p :: ps, xs, e => bindP (i + 1) ps xs (upd e p (xs.getD i undef))
def kxs (k : Exit → Env → World → Prop) (e : Env) : List Nat → List (Nat × (Nat → World → Prop))
  | [] => []
  | i :: is => (i, fun D w => k (exitOf i) (upd e mkS (mkV D (e mkS))) w) :: kxs k e is
def kxN (k : Exit → Env → World → Prop) (e : Env) : List Nat → List (Nat × (World → Prop))
  | [] => []
  | i :: is => (i, fun w => k (exitOf i) e w) :: kxN k e is
def looped : Code → Bool
  | .rangeFunc .. => true
  | .seq a b => match looped a with | true => true | false => looped b
  | .cond _ a b => match looped a with | true => true | false => looped b
  | .block _ c => looped c
  | .loop _ => true
  | _ => false
def inl (c : Code) : Bool := match looped c with | true => false | false => Nat.ble (ne c) 1
def condIn (kp : List Nat) : Operand → Bool
  | .tmp t => memN kp t
  | _ => true

def sh (P : Program) (n : Nat) (kp : List Nat) (ro : Option Nat) (R : Ending → World → Prop) : Code → (Exit → Env → World → Prop) → Env → World → Prop
  | .skip, k, e, w => k .normal e w
  | .ret, k, e, w => k .ret e w
  | .exit id, k, e, w => k (.exit id) e w
  | .seq a b, k, e, w =>
    match inl a with
    | true => sh P n kp ro R a (nrm k (sh P n kp ro R b k)) e w
    | false => join e (fun j => sh P n kp ro R a (nrm k j) e w) fun e g w' => sh P n kp ro R b k (mix (mods kp a) g e) w'
  | .cond c x y, k, e, w => match condIn kp c with
    | true => cond (ev n e c) (sh P n kp ro R x k e w) (sh P n kp ro R y k e w)
    | false => False
  | .block id c, k, e, w => sh P n kp ro R c (blk id k) e w
  | .loop c, k, e, w => loop e w fun e g w' kn => sh P n kp ro R c (nrm k kn) (mix (mods kp c) g e) w'
  | .region _ ops draw, k, e, w => shRegion P n kp R ops draw (k .normal) e w
  | .rangeFunc g ps asn body, k, e, w =>
    match condIn kp g, calmC asn, psOk ps.toList, Nat.ble n mkS with
    | true, true, true, true => match ro with
      | none => rangeF P (ev n e g) ps.size w
        (fun l xs w mid fin => sh P n kp (some l) noR asn (nrm (fun _ _ _ => False) fun e w => mid (fun w => sh P n kp (some l) noR body (fun x _ w => fin x w) e w) w) (bindP 0 ps.toList xs (upd e mkS undef)) w)
        (fun D w => k .normal (upd e mkS (mkV D (e mkS))) w) (kxs k e (exs body))
      | some l0 => rangeN P (ev n e g) ps.size l0 w
        (fun l xs w mid fin => sh P n kp (some l) noR asn (nrm (fun _ _ _ => False) fun e w => mid (fun w => sh P n kp (some l) noR body (fun x _ w => fin x w) e w) w) (bindP 0 ps.toList xs (upd e mkS undef)) w)
        (fun w => k .normal e w) (kxN k e (exs body))
    | _, _, _, _ => False
  | _, _, _, _ => False

/-! ### The results -/
def ldv (r : Result Value) (w : World) (K : Value → Prop) : Prop :=
  match r with
  | .ok v w' => w' = w ∧ K v
  | _ => False
def resl (P : Program) (n : Nat) (e : Env) (w : World) : List ResultVar → (List Value → Prop) → Prop
  | [], K => K []
  | .tmp t :: rs, K => resl P n e w rs fun vs => K (rd n e t :: vs)
  | .cell a t :: rs, K => ldv ((Instr.loadAt t (rd n e a)).run P w) w fun v => resl P n e w rs fun vs => K (v :: vs)
def resK (R : Ending → World → Prop) (w : World) : List Value → Prop
  | [v] => R (.returned v) w
  | vs => R (.returned (.tuple vs.toArray)) w
def resIn (kp : List Nat) : List ResultVar → Bool
  | [] => true
  | .tmp t :: rs => match memN kp t with | true => resIn kp rs | false => false
  | .cell a _ :: rs => match memN kp a with | true => resIn kp rs | false => false
def kfunM (P : Program) (n : Nat) (rs : List ResultVar) (R : Ending → World → Prop) : Exit → Env → World → Prop
  | .normal, e, w => leaveM (mkD (e mkS)) w fun w => resl P n e w rs (resK R w)
  | .ret, e, w => leaveM (mkD (e mkS)) w fun w => resl P n e w rs (resK R w)
  | _, _, _ => False
def kfun (P : Program) (n : Nat) (rs : List ResultVar) (R : Ending → World → Prop) : Exit → Env → World → Prop
  | .normal, e, w => resl P n e w rs (resK R w)
  | .ret, e, w => resl P n e w rs (resK R w)
  | _, _, _ => False
def ini : List Value → Env
  | [] => fun _ => undef
  | v :: vs => fun s => match s with | 0 => v | s + 1 => ini vs s
def shF (P : Program) (f : FuncId) (kp : List Nat) (args : List Value) (R : Ending → World → Prop) (w : World) : Prop :=
  match P.funcs[f]? with
  | some fn => match fn.body with
    | some c => match resIn kp fn.results.toList, Nat.ble args.length fn.ntmps, Nat.ble fn.ntmps mkS with
      | true, true, true => match memN (mods kp c) mkS with
        | false => sh P fn.ntmps kp none R c (kfun P fn.ntmps fn.results.toList R) (ini args) w
        | true => sh P fn.ntmps kp none (noP R) c (kfunM P fn.ntmps fn.results.toList R) (ini args) w
      | _, _, _ => False
    | none => False
  | none => False
end Go.Sh
