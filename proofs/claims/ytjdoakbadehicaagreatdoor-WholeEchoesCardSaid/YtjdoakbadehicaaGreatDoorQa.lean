/- Part of a proof. No condition but those that its theorems state. -/
import Derived.WalkKit
import Derived.Deep.Quiet
import Derived.StillTail
import Derived.RangeFuncRecord
import Derived.Sort.LoopGhostIn
import Derived.Deep.LoopGhost
import Derived.TacticsIn
import Derived.OrdersIn
import Derived.Lib.OthersKept
import Derived.MapKept
import Derived.Laws.BytesString
import Derived.Laws.AppendOwn
import Derived.Laws.StructEq
import Derived.Laws.Pointers
import Derived.Laws.OwnMore
import Derived.Laws.Cover4
import Derived.Laws.IdiomStrings
import Derived.Laws.Slices
import Derived.Lib.MinMax
import Derived.Lib.SliceRun
import Derived.Deep.AppendLies
import Derived.Test.YtjdoakbadehicaaGreatDoorProg
import Derived.KernelRfl
set_option linter.unusedVariables false
set_option linter.unusedSimpArgs false
section
namespace Go.Sh
open Go
abbrev Env := Nat → Value
def upd (e : Env) (d : Nat) (v : Value) : Env := fun s => match Nat.beq s d with | true => v | false => e s
def dE : List Nat → Nat → Bool
 | [], _ => false
 | x :: xs, s => match Nat.beq x s with | true => true | false => dE xs s
def mix (ms : List Nat) (g e : Env) : Env := fun s => match dE ms s with | true => g s | false => e s
def put (e : Env) (d : Option Nat) (v : Value) : Env := match d with | none => e | some d => upd e d v
def uC (kp : List Nat) (e : Env) (d : Option Nat) (v : Value) : Env := match d with | none => e | some d => match dE kp d with | true => upd e d v | false => e
def rd (n : Nat) (e : Env) (t : Nat) : Value := match Nat.blt t n with | true => e t | false => undef
def ev (n : Nat) (e : Env) : Operand → Value
 | .tmp t => rd n e t
 | .const v => v
 | .global g => .pointer (some ⟨g, 0, none⟩)
 | .func f => .func (.func f) #[] #[]
def bi (r : Result Value) (R : Ending → World → Prop) (K : Value → World → Prop) : Prop :=
 match r with
 | .ok v w => K v w
 | .halt (.panic v) w => R (.panicked [{ v, recovered := false }]) w
 | _ => False
def uw (r : Result Unit) (R : Ending → World → Prop) (K : Value → World → Prop) : Prop :=
 match r with
 | .ok _ w => K undef w
 | .halt (.panic v) w => R (.panicked [{ v, recovered := false }]) w
 | _ => False
def lh (P : Program) (f : FuncId) (args : Array Value) (w : World) (R : Ending → World → Prop) (K : Value → World → Prop) : Prop :=
 Calls P f args w fun | .returned v, w' => K v w' | .panicked c, w' => R (.panicked c) w' | .outgrown, _ => False
def aiC (P : Program) (f : Value) (args : Array Value) (w : World) (R : Ending → World → Prop) (K : Value → World → Prop) : Prop :=
 match f with
 | .func (.func g) first cap => ((P.funcs[g]?).any fun fn => fn.body.isSome && !(fn.name == "runtime.NumGoroutine")) = true ∧ lh P g (first ++ args ++ cap) w R K
 | _ => False
def gd (v : Value) (want : Bool) (op : (Value → World → Prop) → Prop) (w : World) (K : Value → World → Prop) : Prop :=
 match v with
 | .bool b => match b == want with | true => op K | false => K undef w
 | _ => K undef w
def pick (c a b : Value) (w : World) (K : Value → World → Prop) : Prop :=
 match c with
 | .bool t => K (match t with | true => a | false => b) w
 | _ => False
def df (x : Value) (w : World) (K : Value → World → Prop) : Prop :=
 match x with
 | .pointer (some a) => K (.pointer (some a)) w
 | _ => False
def cond (v : Value) (A B : Prop) : Prop :=
 match v with
 | .bool true => A
 | .bool false => B
 | _ => False
def join (e : Env) (A : (Env → World → Prop) → Prop) (r : Env → Env → World → Prop) : Prop := A (r e)
def loop (e : Env) (w : World) (body : Env → Env → World → (Env → World → Prop) → Prop) : Prop :=
 ∃ (I : Env → World → Prop) (μ : Env → World → Nat), I e w ∧ ∀ g w, I g w → body e g w fun g' w' => I g' w' ∧ μ g' w' < μ g w
def aZ : Ending → World → Prop := fun _ _ => False
def vG (P : Program) (f : Value) (args : Array Value) (w : World) (R : Ending → World → Prop) : Prop :=
 match f with
 | .func (.func g) first cap => ((P.funcs[g]?).any fun fn => fn.body.isSome && !(fn.name == "runtime.NumGoroutine")) = true ∧ Calls P g (first ++ args ++ cap) w R
 | .func (.yield l) first cap => first = #[] ∧ cap = #[] ∧ ∃ fn tmps assign body, (Instr.yield l args).run P w = .ok (.round l fn tmps assign body) w ∧ RoundIn Fence.wide 0 P l fn tmps assign body w R
 | _ => False
def CV (P : Program) (f : Value) (args : Array Value) (w : World) (R : Ending → World → Prop) (K : Value → World → Prop) : Prop :=
 vG P f args w fun | .returned v, w' => K v w' | .panicked c, w' => R (.panicked c) w' | .outgrown, _ => False
def mkS : Nat := 1000000
def mkV (D : Nat) (v : Value) : Value := match v with | .tuple vs => .tuple (#[.int .u64 D] ++ vs) | _ => .tuple #[.int .u64 D]
def yX (v : Value) : List Nat := match v with | .tuple vs => vs.toList.map fun x => (RowKit.intOf x).toNat | _ => []
def Jw (l : Nat) (w w' : World) : Prop := ∃ o, w' = { w with heap := w.heap.setIfInBounds l o }
def Ci : Obj → Bool
 | .loop _ => true
 | _ => false
def RH (l : Nat) (Rdy Bsy : Obj) (C : World → Prop) (w : World) : Prop := w.heap[l]? = some Rdy ∧ ∀ w', Jw l w w' → w'.heap[l]? = some Bsy → C w'
def OL (l : Nat) (Rdy Bsy : Obj) (Dn : Nat → Obj) (Q : Bool → World → Prop) (x : Exit) (w : World) : Prop := w.heap[l]? = some Bsy ∧ ∀ w', Jw l w w' →
 match x with
 | .normal => w'.heap[l]? = some Rdy → Q true w'
 | .ret => w'.heap[l]? = some (Dn 0) → Q false w'
 | .exit i => w'.heap[l]? = some (Dn (i + 1)) → Q false w'
 | _ => False
def wV (P : Program) (gv : Value) (np : Nat) (w : World) (Nw : Nat → List Value → World → ((World → Prop) → World → Prop) → (Exit → World → Prop) → Prop)
  (kn : Nat → World → Prop) (kx : List (Nat × (Nat → World → Prop))) : Prop :=
 match gv with
 | .func (.func gf) first lb => ((P.funcs[gf]?).any fun fn => fn.body.isSome && !(fn.name == "runtime.NumGoroutine")) = true ∧
  ∀ (w1 : World) (l D : Nat) (Rdy Bsy : Obj) (Dn : Nat → Obj) (y : Value), D = w.heap.size → l = D + 1 → RowKit.Below w.heap.size w w1 → w1.heap.size = D + 2 →
   w1.heap[D]? = some (.deferred (some [])) → w1.heap[l]? = some Rdy → Ci Rdy = true → Ci Bsy = true → (∀ i, Ci (Dn i) = true) →
   (∀ xs w2 (Q : Bool → World → Prop), xs.length = np → w2.heap[l]? = some Rdy → Nw l xs w2 (RH l Rdy Bsy) (OL l Rdy Bsy Dn Q) →
    vG P y xs.toArray w2 fun e w' => match e with | .returned (.bool b) => Q b w' | _ => False) →
   Calls P gf (first ++ #[y] ++ lb) w1 fun e w2 => (∃ v, e = .returned v) ∧
    ((w2.heap[l]? = some Rdy ∧ ∀ w3, Jw l w2 w3 → kn D w3) ∨ ∃ i k, (i, k) ∈ kx ∧ w2.heap[l]? = some (Dn i) ∧ ∀ w3, Jw l w2 w3 → k D w3)
 | _ => False
def PL (P : Program) (gv : Value) (np l0 : Nat) (w : World) (Nw : Nat → List Value → World → ((World → Prop) → World → Prop) → (Exit → World → Prop) → Prop)
  (kn : World → Prop) (kx : List (Nat × (World → Prop))) : Prop :=
 match gv with
 | .func (.func gf) first lb => ((P.funcs[gf]?).any fun fn => fn.body.isSome && !(fn.name == "runtime.NumGoroutine")) = true ∧ (∃ r0, w.heap[l0]? = some (.loop r0)) ∧
  ∀ (w1 : World) (l : Nat) (Rdy Bsy : Obj) (Dn : Nat → Obj) (y : Value), l = w.heap.size → RowKit.Below w.heap.size w w1 → w1.heap.size = l + 1 →
   w1.heap[l]? = some Rdy → Ci Rdy = true → Ci Bsy = true → (∀ i, Ci (Dn i) = true) →
   (∀ xs w2 (Q : Bool → World → Prop), xs.length = np → w2.heap[l]? = some Rdy → Nw l xs w2 (RH l Rdy Bsy) (OL l Rdy Bsy Dn Q) →
    vG P y xs.toArray w2 fun e w' => match e with | .returned (.bool b) => Q b w' | _ => False) →
   Calls P gf (first ++ #[y] ++ lb) w1 fun e w2 => (∃ v, e = .returned v) ∧
    ((w2.heap[l]? = some Rdy ∧ ∀ w3, Jw l w2 w3 → kn w3) ∨ ∃ i k, (i, k) ∈ kx ∧ w2.heap[l]? = some (Dn i) ∧ ∀ w3, Jw l w2 w3 → k w3)
 | _ => False
def mG : List Nat → World → (World → Prop) → Prop
 | [], w, K => K w
 | D :: Ds, w, K => w.heap[D]? = some (.deferred (some [])) ∧ ∀ w', Jw D w w' → mG Ds w' K
def gz (R : Ending → World → Prop) : Ending → World → Prop
 | .panicked _, _ => False
 | e, w => R e w
def isC : Operand → Bool
 | .const _ => true
 | _ => false
def qI (c : Bool) (op : BinOp) (t : TypeId) (a b : Value) : Sem Value := do
 eqGuard op t (match c with | true => .const undef | false => .tmp 0) (.tmp 0) a b
 binOp op t a b
abbrev Ext (w w' : World) : Prop := RowKit.Below w.heap.size w w'
structure Moves (T : World → World → Prop) : Prop where
 refl : ∀ w, T w w
 trans : ∀ {a b c}, T a b → T b c → T a c
 ext : ∀ {a b}, Ext a b → T a b
def drawn (w : World) (A : (World → World → Prop) → World → Prop) : Prop := ∃ T, Moves T ∧ A T { w with drawn := w.drawn + 1 }
def bJ (T : World → World → Prop) (w : World) (op : World → (Value → World → Prop) → Prop) (K : Value → Prop) : Prop :=
 ∃ v, (∀ w', T w w' → op w' fun u w'' => u = v ∧ Ext w' w'') ∧ K v
def zA (T : World → World → Prop) (w : World) (op : World → (Value → World → Prop) → Prop) (K : Value → World → Prop) : Prop := op w fun v w' => T w w' ∧ K v w'
def ext (w : World) (K : World → Prop) : Prop := ∀ w', Ext w w' → K w'
def Et (P : Program) (g : FuncId) : Bool := (P.funcs[g]?).any fun fn => fn.body.isSome && !(fn.name == "runtime.NumGoroutine")
def evs (n : Nat) (e : Env) : List Operand → List Value
 | [] => []
 | x :: xs => ev n e x :: evs n e xs
def RJ (n : Nat) (e : Env) : List (Nat × Operand) → List (Nat × Value)
 | [] => []
 | x :: xs => (x.1, ev n e x.2) :: RJ n e xs
def evo (n : Nat) (e : Env) : Option Operand → Option Value
 | none => none
 | some x => some (ev n e x)
def OQ (P : Program) (n : Nat) (R : Ending → World → Prop) (yl : Bool) (o : Oper) (e : Env) (w : World) (K : Value → World → Prop) : Prop :=
 match o.op with
 | .move x | .assign x => K (ev n e x) w
 | .pick c a b => pick (ev n e c) (ev n e a) (ev n e b) w K
 | .alloc t => bi ((Instr.alloc t true (.tuple #[])).run P w) R K
 | .box t x => bi ((Instr.box t (ev n e x)).run P w) R K
 | .build t ps => bi ((Instr.build t (RJ n e ps.toList).toArray).run P w) R K
 | .buildSlice t l ps => bi ((Instr.buildSlice t l (RJ n e ps.toList).toArray).run P w) R K
 | .load t a => bi ((Instr.loadAt t (ev n e a)).run P w) R K
 | .store t a x => uw ((Instr.storeAt t (ev n e a) (ev n e x)).run P w) R K
 | .nilCheck x => df (ev n e x) w K
 | .binOp op t x y _ =>
  match op with
  | .eql | .neq => bi ((qI (isC x || isC y) op t (ev n e x) (ev n e y)).run P w) R K
  | op => bi ((binOp op t (ev n e x) (ev n e y)).run P w) R K
 | .unOp op _ x => bi ((Op.unary op (ev n e x)).run P w) R K
 | .convert s d x => bi ((convert s d (ev n e x)).run P w) R K
 | .sliceToArrayPointer t x => bi ((Instr.arrayAt t (ev n e x)).run P w) R K
 | .makeInterface t x => bi ((Instr.makeInterface t (ev n e x)).run P w) R K
 | .makeFunc fn a b => bi ((Instr.makeFunc fn (evs n e a.toList).toArray (evs n e b.toList).toArray).run P w) R K
 | .makeMap t r => bi ((Instr.makeMap t (evo n e r)).run P w) R K
 | .makeChan t s => bi ((Instr.makeChan t (ev n e s)).run P w) R K
 | .makeSlice t l c => bi ((Instr.makeSlice t (ev n e l) (ev n e c)).run P w) R K
 | .slice t x lo hi mx => bi ((Instr.sliceAt t (ev n e x) (evo n e lo) (evo n e hi) (evo n e mx)).run P w) R K
 | .fieldAddr t x f => bi ((Instr.fieldAt t (ev n e x) f).run P w) R K
 | .field t x f => bi ((Instr.field t (ev n e x) f).run P w) R K
 | .indexAddr t x i => bi ((Instr.indexAt t (ev n e x) (ev n e i)).run P w) R K
 | .index t x i => bi ((Instr.index t (ev n e x) (ev n e i)).run P w) R K
 | .lookup t x i c => bi ((Instr.lookup t (ev n e x) (ev n e i) c).run P w) R K
 | .mapUpdate t m k x | .insert t m k x => uw ((Instr.mapUpdate t (ev n e m) (ev n e k) (ev n e x)).run P w) R K
 | .mapEntry t m k => bi ((Instr.mapEntry t (ev n e m) (ev n e k)).run P w) R K
 | .entryStore t m s x => uw ((Instr.entryStore t (ev n e m) (ev n e s) (ev n e x)).run P w) R K
 | .range t x => bi ((Instr.range t (ev n e x)).run P w) R K
 | .next it s => bi ((Instr.next (ev n e it) s o.type).run P w) R K
 | .entry it => bi ((Instr.entry (ev n e it)).run P w) R K
 | .typeAssert x t a c => bi ((Instr.typeAssert (ev n e x) t a c).run P w) R K
 | .extract t i => bi ((Instr.extract (ev n e t) i).run P w) R K
 | .panic x => bi ((Instr.panic (ev n e x)).run P w) R K
 | .call c =>
  match c.callee with
  | .value (.func g) => match Et P g with | true => lh P g (evs n e c.args.toList).toArray w R K | false => False
  | .value f => match yl with | true => CV P (ev n e f) (evs n e c.args.toList).toArray w R K | false => aiC P (ev n e f) (evs n e c.args.toList).toArray w R K
  | .builtin .append => bi ((Builtin.append_ c.argTypes o.type (evs n e c.args.toList).toArray).run P w) R K
  | .builtin .len => bi ((Builtin.len_ c.argTypes o.type (evs n e c.args.toList).toArray).run P w) R K
  | .builtin .cap => bi ((Builtin.cap_ c.argTypes o.type (evs n e c.args.toList).toArray).run P w) R K
  | .builtin .copy => bi ((Builtin.copy_ c.argTypes o.type (evs n e c.args.toList).toArray).run P w) R K
  | .builtin .clear => bi ((Builtin.clear_ c.argTypes o.type (evs n e c.args.toList).toArray).run P w) R K
  | .builtin .delete => bi ((Builtin.delete_ c.argTypes o.type (evs n e c.args.toList).toArray).run P w) R K
  | .builtin .min => bi ((Builtin.min_ c.argTypes o.type (evs n e c.args.toList).toArray).run P w) R K
  | .builtin .max => bi ((Builtin.max_ c.argTypes o.type (evs n e c.args.toList).toArray).run P w) R K
  | .builtin .close => bi ((Builtin.close_ c.argTypes o.type (evs n e c.args.toList).toArray).run P w) R K
  | .builtin .unsafeSliceData => bi ((Builtin.unsafeSliceData_ c.argTypes o.type (evs n e c.args.toList).toArray).run P w) R K
  | .builtin .unsafeString => bi ((Builtin.unsafeString_ c.argTypes o.type (evs n e c.args.toList).toArray).run P w) R K
  | .builtin .unsafeStringData => bi ((Builtin.unsafeStringData_ c.argTypes o.type (evs n e c.args.toList).toArray).run P w) R K
  | .builtin .unsafeSlice => bi ((Builtin.unsafeSlice_ c.argTypes o.type (evs n e c.args.toList).toArray).run P w) R K
  | _ => False
 | _ => False
def Eu (all : Array Oper) (j : Nat) : Option Nat := match all[j]? with | some o => o.dst | none => none
def Lm (P : Program) (n : Nat) (R : Ending → World → Prop) (yl : Bool) (all : Array Oper) (o : Oper) (e : Env) (w : World) (K : Value → World → Prop) : Prop :=
 match o.guard with
 | none => OQ P n R yl o e w K
 | some (j, want) =>
  match Eu all j with
  | some t => gd (rd n e t) want (fun K' => OQ P n R yl o e w K') w K
  | none => K undef w
def MF (P : Program) (n : Nat) (kp : List Nat) (R : Ending → World → Prop) (all : Array Oper) (K : Env → World → Prop) : List Oper → Env → Env → World → Prop
 | [], _, ek, w => K ek w
 | o :: os, e, ek, w => Lm P n R true all o e w fun v w' => MF P n kp R all K os (put e o.dst v) (uC kp ek o.dst v) w'
def looks (all : Array Oper) (o : Oper) : List Nat :=
 (o.op.operands.toList.filterMap fun | .tmp t => some t | _ => none) ++ (match o.guard with | some (j, _) => (Eu all j).toList | none => [])
def allIn (kp W : List Nat) : List Nat → Bool
 | [] => true
 | t :: ts => match dE kp t with | true => allIn kp W ts | false => match dE W t with | true => allIn kp W ts | false => false
def Du (o : Option Nat) : Bool := match o with | some d => (match Nat.beq d mkS with | true => false | false => true) | none => true
def xH (kp : List Nat) (all : Array Oper) : List Nat → List Oper → Bool
 | _, [] => true
 | W, o :: os => match allIn kp W (looks all o), Du o.dst with | true, true => xH kp all (match o.dst with | some d => d :: W | none => W) os | _, _ => false
def wB (o : Oper) : Bool := match o.op with | .select .. => true | .defer .. => true | _ => false
def xI : List Oper → Bool
 | [] => true
 | o :: os => match wB o with | true => false | false => xI os
def agP (P : Program) : Nat → TypeId → Bool
 | 0, _ => true
 | f + 1, t => match P.underlying t with
  | some (.slice _) => true
  | some (.pointer _) => true
  | some (.map _ _) => true
  | some (.struct fs) => fs.toList.any fun x => agP P f x.type
  | some (.array _ e) => agP P f e
  | some (.int _) => false
  | some .bool => false
  | some .string => false
  | _ => true
def aeL : List String := ["(*greenscreen/plane.Plane).Set", "(*greenscreen/plane.Plane).Point", "(*greenscreen/plane.Plane).Fill", "(*greenscreen/plane.Plane).Clear", "greenscreen/field.Mark", "greenscreen/field.Unmark", "greenscreen/field.modify", "(*greenscreen/grammar.reader).next", "(*greenscreen/grammar.reader).place", "(*greenscreen/grammar.reader).cell", "greenscreen/keyboard.move", "(*greenscreen/keyboard.Keyboard).edit", "(*greenscreen/lock.Lock).Fail", "greenscreen/typing.Put", "greenscreen/caret.to", "greenscreen/paint.Paint", "(*greenscreen/screen.Screen).write"]
def aoU (P : Program) (g : FuncId) : Bool := match P.funcs[g]? with
 | some fn => (fn.resultTypes.toList.any fun t => agP P 4 t) || aeL.any fun x => fn.name == x
 | none => false
def loud (P : Program) (o : Oper) : Bool :=
 match o.op with
 | .alloc _ | .box .. | .buildSlice .. | .store .. | .makeMap .. | .makeChan .. | .makeSlice .. | .mapUpdate .. | .insert .. | .mapEntry .. | .entryStore .. | .range .. | .next .. | .entry _ | .panic _ | .makeFunc .. => true
 | .convert _ t _ => match P.underlying t with | some (.slice _) => true | _ => false
 | .call c => match c.callee with
  | .builtin .len | .builtin .cap | .builtin .min | .builtin .max => false
  | .builtin _ => true
  | .value (.func g) => aoU P g
  | .value _ => true
  | _ => false
 | _ => false
def Ha (P : Program) (ops : Array Oper) : List Nat → Option Nat
 | [] => none
 | i :: is => match ops[i]? with
  | some o => (match loud P o with | false => some i | true => Ha P ops is)
  | none => none
def canon (P : Program) (ops : Array Oper) : Nat → Array Bool → Option (List Nat)
 | 0, listed => match Region.ready .any ops listed with | [] => some [] | _ => none
 | f + 1, listed => match Ha P ops (Region.ready .any ops listed) with
  | some i => (match Region.free .any ops listed i with
   | true => (match canon P ops f (listed.setIfInBounds i true) with | some l => some (i :: l) | none => none)
   | false => none)
  | none => match Region.ready .any ops listed with
   | [k] => (match canon P ops f (listed.setIfInBounds k true) with | some l => some (k :: l) | none => none)
   | _ => none
def I9 (ops : Array Oper) : List Nat → Option (List Oper)
 | [] => some []
 | i :: is => match ops[i]?, I9 ops is with | some o, some l => some (o :: l) | _, _ => none
def aoV (ops : Array Oper) (S : List Nat) (l : List Nat) : List Nat := l.filter fun i => match dE S i with | true => false | false => S.any fun j => Region.waitsFor .any ops j i
def Xx (ops : Array Oper) : Nat → List Nat → List Nat
 | 0, S => S
 | f + 1, S => match aoV ops S (List.range ops.size) with | [] => S | x :: l => Xx ops f (x :: l ++ S)
def RN (ops : Array Oper) (j : Nat) : Bool := (List.range ops.size).all fun i => Nat.beq i j || (Region.waitsFor .any ops j i || Region.waitsFor .any ops i j) || dE (Xx ops ops.size ((List.range ops.size).filter fun i => Region.waitsFor .any ops j i)) i
def Qq (P : Program) (ops : Array Oper) : List (List Nat) := ((List.range ops.size).filter fun j => match ops[j]? with | some o => (match loud P o with | true => (match RN ops j with | true => false | false => true) | false => false) | none => false).map fun j => Xx ops ops.size ((List.range ops.size).filter fun i => Region.waitsFor .any ops j i)
def early : List (List Nat) → Nat → Bool
 | [], _ => false
 | S :: L, i => match dE S i with | true => (match L with | [] => true | _ => early L i) | false => false
def Jy (P : Program) (n : Nat) (kp : List Nat) (R : Ending → World → Prop) (all : Array Oper) (L : List (List Nat)) (T : World → World → Prop) (K : Env → World → Prop) : List Nat → List Oper → Env → Env → World → Prop
 | i :: is, o :: os, e, ek, w =>
  match loud P o with
  | true => (match RN all i with
   | true => ext w fun w => Lm P n R true all o e w fun v w' => Jy P n kp R all L T K is os (put e o.dst v) (uC kp ek o.dst v) w'
   | false => ext w fun w => Lm P n R true all o e w fun v w' => T w w' ∧ Jy P n kp R all L T K is os (put e o.dst v) (uC kp ek o.dst v) w')
  | false =>
   match o.guard, o.op with
   | none, .move x => Jy P n kp R all L T K is os (put e o.dst (ev n e x)) (uC kp ek o.dst (ev n e x)) w
   | none, .assign x => Jy P n kp R all L T K is os (put e o.dst (ev n e x)) (uC kp ek o.dst (ev n e x)) w
   | _, _ => match early L i with
    | true => bJ Ext w (fun w K' => Lm P n aZ false all o e w K') fun v => Jy P n kp R all L T K is os (put e o.dst v) (uC kp ek o.dst v) w
    | false => bJ T w (fun w K' => Lm P n aZ false all o e w K') fun v => Jy P n kp R all L T K is os (put e o.dst v) (uC kp ek o.dst v) w
 | _, _, _, ek, w => ext w fun w => K ek w
def uY (P : Program) (n : Nat) (kp : List Nat) (R : Ending → World → Prop) (ops : Array Oper) (draw : Bool) (K : Env → World → Prop) (e : Env) (w : World) : Prop :=
 match draw with
 | false => match xH kp ops [] ops.toList, xI ops.toList with
  | true, true => MF P n kp R ops K ops.toList e e w
  | _, _ => False
 | true =>
  match P.follows .mixedOrders, canon P ops ops.size (Array.replicate ops.size false) with
  | true, some is => (match I9 ops is with
   | some l => (match xH kp ops [] l, xI ops.toList with
    | true, true => drawn w fun T w => Jy P n kp R ops (Qq P ops) T K is l e e w
    | _, _ => False)
   | none => False)
  | _, _ => False
def RP (x : Nat) (l : List Nat) : List Nat := match dE l x with | true => l | false => x :: l
def kW (kp : List Nat) : List Oper → List Nat
 | [] => []
 | o :: os => match o.dst with
  | some d => (match dE kp d with | true => RP d (kW kp os) | false => kW kp os)
  | none => kW kp os
def yF : List Nat → List Nat → List Nat
 | [], l => l
 | x :: xs, l => RP x (yF xs l)
def jK (kp : List Nat) : Code → List Nat
 | .region _ ops _ => kW kp ops.toList
 | .seq a b => yF (jK kp a) (jK kp b)
 | .cond _ a b => yF (jK kp a) (jK kp b)
 | .block _ c => jK kp c
 | .loop c => jK kp c
 | .rangeFunc .. => [mkS]
 | _ => []
def nrm (k : Exit → Env → World → Prop) (j : Env → World → Prop) : Exit → Env → World → Prop
 | .normal, e, w => j e w
 | x, e, w => k x e w
def blk (id : Nat) (k : Exit → Env → World → Prop) : Exit → Env → World → Prop
 | .exit i, e, w => match Nat.beq i id with | true => k .normal e w | false => k (.exit i) e w
 | x, e, w => k x e w
def xe (id : Nat) : Code → Nat
 | .exit i => match Nat.beq i id with | true => 1 | false => 0
 | .seq a b => xe id a + xe id b
 | .cond _ a b => xe id a + xe id b
 | .block _ c => xe id c
 | .loop c => xe id c
 | _ => 0
def ne : Code → Nat
 | .skip => 1
 | .region .. => 1
 | .seq a b => match ne a with | 0 => 0 | _ => ne b
 | .cond _ a b => ne a + ne b
 | .block id c => ne c + xe id c
 | _ => 0
def delN (x : Nat) : List Nat → List Nat
 | [] => []
 | y :: ys => match Nat.beq x y with | true => delN x ys | false => y :: delN x ys
def Qr : Code → List Nat
 | .ret => [0]
 | .exit i => [i + 1]
 | .seq a b => yF (Qr a) (Qr b)
 | .cond _ a b => yF (Qr a) (Qr b)
 | .block i c => delN (i + 1) (Qr c)
 | .loop c => Qr c
 | .rangeFunc _ _ _ c => Qr c
 | _ => []
def Qu : Nat → Exit
 | 0 => .ret
 | i + 1 => .exit i
def Ja : Code → Bool
 | .rangeFunc .. => false
 | .seq a b => match Ja a with | true => Ja b | false => false
 | .cond _ a b => match Ja a with | true => Ja b | false => false
 | .block _ c => Ja c
 | .loop c => Ja c
 | _ => true
def Xy : List Nat → Bool
 | [] => true
 | p :: ps => match Du (some p) with | true => Xy ps | false => false
def Fp : Nat → List Nat → List Value → Env → Env
 | _, [], _, e => e
 | i, p :: ps, xs, e => Fp (i + 1) ps xs (upd e p (xs.getD i undef))
def kxs (k : Exit → Env → World → Prop) (e : Env) : List Nat → List (Nat × (Nat → World → Prop))
 | [] => []
 | i :: is => (i, fun D w => k (Qu i) (upd e mkS (mkV D (e mkS))) w) :: kxs k e is
def kxN (k : Exit → Env → World → Prop) (e : Env) : List Nat → List (Nat × (World → Prop))
 | [] => []
 | i :: is => (i, fun w => k (Qu i) e w) :: kxN k e is
def He : Code → Bool
 | .rangeFunc .. => true
 | .seq a b => match He a with | true => true | false => He b
 | .cond _ a b => match He a with | true => true | false => He b
 | .block _ c => He c
 | .loop _ => true
 | _ => false
def inl (c : Code) : Bool := match He c with | true => false | false => Nat.ble (ne c) 1
def Xz (kp : List Nat) : Operand → Bool
 | .tmp t => dE kp t
 | _ => true
def sh (P : Program) (n : Nat) (kp : List Nat) (ro : Option Nat) (R : Ending → World → Prop) : Code → (Exit → Env → World → Prop) → Env → World → Prop
 | .skip, k, e, w => k .normal e w
 | .ret, k, e, w => k .ret e w
 | .exit id, k, e, w => k (.exit id) e w
 | .seq a b, k, e, w =>
  match inl a with
  | true => sh P n kp ro R a (nrm k (sh P n kp ro R b k)) e w
  | false => join e (fun j => sh P n kp ro R a (nrm k j) e w) fun e g w' => sh P n kp ro R b k (mix (jK kp a) g e) w'
 | .cond c x y, k, e, w => match Xz kp c with
  | true => cond (ev n e c) (sh P n kp ro R x k e w) (sh P n kp ro R y k e w)
  | false => False
 | .block id c, k, e, w => sh P n kp ro R c (blk id k) e w
 | .loop c, k, e, w => loop e w fun e g w' kn => sh P n kp ro R c (nrm k kn) (mix (jK kp c) g e) w'
 | .region _ ops draw, k, e, w => uY P n kp R ops draw (k .normal) e w
 | .rangeFunc g ps asn body, k, e, w =>
  match Xz kp g, Ja asn, Xy ps.toList, Nat.ble n mkS with
  | true, true, true, true => match ro with
   | none => wV P (ev n e g) ps.size w
    (fun l xs w mid fin => sh P n kp (some l) aZ asn (nrm (fun _ _ _ => False) fun e w => mid (fun w => sh P n kp (some l) aZ body (fun x _ w => fin x w) e w) w) (Fp 0 ps.toList xs (upd e mkS undef)) w)
    (fun D w => k .normal (upd e mkS (mkV D (e mkS))) w) (kxs k e (Qr body))
   | some l0 => PL P (ev n e g) ps.size l0 w
    (fun l xs w mid fin => sh P n kp (some l) aZ asn (nrm (fun _ _ _ => False) fun e w => mid (fun w => sh P n kp (some l) aZ body (fun x _ w => fin x w) e w) w) (Fp 0 ps.toList xs (upd e mkS undef)) w)
    (fun w => k .normal e w) (kxN k e (Qr body))
  | _, _, _, _ => False
 | _, _, _, _ => False
def jo (r : Result Value) (w : World) (K : Value → Prop) : Prop :=
 match r with
 | .ok v w' => w' = w ∧ K v
 | _ => False
def Eo (P : Program) (n : Nat) (e : Env) (w : World) : List ResultVar → (List Value → Prop) → Prop
 | [], K => K []
 | .tmp t :: rs, K => Eo P n e w rs fun vs => K (rd n e t :: vs)
 | .cell a t :: rs, K => jo ((Instr.loadAt t (rd n e a)).run P w) w fun v => Eo P n e w rs fun vs => K (v :: vs)
def RG (R : Ending → World → Prop) (w : World) : List Value → Prop
 | [v] => R (.returned v) w
 | vs => R (.returned (.tuple vs.toArray)) w
def I8 (kp : List Nat) : List ResultVar → Bool
 | [] => true
 | .tmp t :: rs => match dE kp t with | true => I8 kp rs | false => false
 | .cell a _ :: rs => match dE kp a with | true => I8 kp rs | false => false
def aoW (P : Program) (n : Nat) (rs : List ResultVar) (R : Ending → World → Prop) : Exit → Env → World → Prop
 | .normal, e, w => mG (yX (e mkS)) w fun w => Eo P n e w rs (RG R w)
 | .ret, e, w => mG (yX (e mkS)) w fun w => Eo P n e w rs (RG R w)
 | _, _, _ => False
def abT (P : Program) (n : Nat) (rs : List ResultVar) (R : Ending → World → Prop) : Exit → Env → World → Prop
 | .normal, e, w => Eo P n e w rs (RG R w)
 | .ret, e, w => Eo P n e w rs (RG R w)
 | _, _, _ => False
def ini : List Value → Env
 | [] => fun _ => undef
 | v :: vs => fun s => match s with | 0 => v | s + 1 => ini vs s
def shF (P : Program) (f : FuncId) (kp : List Nat) (args : List Value) (R : Ending → World → Prop) (w : World) : Prop :=
 match P.funcs[f]? with
 | some fn => match fn.body with
  | some c => match I8 kp fn.results.toList, Nat.ble args.length fn.ntmps, Nat.ble fn.ntmps mkS with
   | true, true, true => match dE (jK kp c) mkS with
    | false => sh P fn.ntmps kp none R c (abT P fn.ntmps fn.results.toList R) (ini args) w
    | true => sh P fn.ntmps kp none (gz R) c (aoW P fn.ntmps fn.results.toList R) (ini args) w
   | _, _, _ => False
  | none => False
 | none => False
end Go.Sh
end
section
namespace Go.Sh
open Go
variable {P : Program} {n : Nat} {kp : List Nat} {R : Ending → World → Prop}
theorem rE (a b : Nat) : Nat.beq a b = true ↔ a = b := by rw [Nat.beq_eq]
theorem ZE (a b : Nat) : Nat.blt a b = true ↔ a < b := by unfold Nat.blt; rw [Nat.ble_eq]; exact Iff.rfl
theorem ank {a b : Nat} (h : ¬ a < b) : Nat.blt a b = false := by
 cases hb : Nat.blt a b with
 | false => rfl
 | true => exact absurd ((ZE a b).1 hb) h
theorem Hl {a b : Nat} (h : a ≠ b) : Nat.beq a b = false := by
 cases hb : Nat.beq a b with
 | false => rfl
 | true => exact absurd ((rE a b).1 hb) h
theorem upd_same (e : Env) (d : Nat) (v : Value) : upd e d v d = v := by simp [upd, (rE d d).2 rfl]
theorem upd_ne (e : Env) {d s : Nat} (v : Value) (h : s ≠ d) : upd e d v s = e s := by simp [upd, Hl h]
theorem yI (l : List Nat) (s : Nat) : dE l s = true ↔ s ∈ l := by
 induction l with
 | nil => simp [dE]
 | cons x xs ih =>
  by_cases h : x = s
  ·subst h; simp [dE, (rE x x).2 rfl]
  ·have h' : s ≠ x := fun e => h e.symm
   simp [dE, Hl h, ih, h']
theorem OT {d : Nat} (h : Du (some d) = true) : mkS ≠ d := by
 intro he
 subst he
 simp [Du, (rE mkS mkS).2 rfl] at h
def OJ (v : Value) : List Deferred := (yX v).map fun D => { target := .collected D, args := #[] }
theorem Zx (D : Nat) (v : Value) : yX (mkV D v) = D :: yX v := by
 cases v <;> simp [mkV, yX, RowKit.intOf]
def Cc (n : Nat) (kp W : List Nat) (e : Env) (a : Act) : Prop :=
 a.defers = OJ (e mkS) ∧ a.tmps.size = n ∧ ∀ t, t < n → dE kp t = true ∨ dE W t = true → a.tmps.getD t undef = e t
abbrev qE (n : Nat) (kp : List Nat) (e : Env) (a : Act) : Prop := Cc n kp [] e a
theorem zk {W : List Nat} {e : Env} {a : Act} (h : Cc n kp W e a) (x : Operand) (hx : ∀ t, x = .tmp t → dE kp t = true ∨ dE W t = true) : a.eval x = ev n e x := by
 cases x with
 | tmp t =>
  simp only [Act.eval, ev, rd]
  by_cases ht : t < n
  ·have : Nat.blt t n = true := (ZE t n).2 ht
   simp only [this]
   exact h.2.2 t ht (hx t rfl)
  ·have : Nat.blt t n = false := ank ht
   simp only [this]
   have h1 : a.tmps.size ≤ t := by rw [h.2.1]; exact Nat.le_of_not_lt ht
   simp [Array.getD, Nat.not_lt.2 h1]
 | const v => rfl
 | global g => rfl
 | func f => rfl
theorem Hf {W : List Nat} {e : Env} {a : Act} (h : Cc n kp W e a) (d : Option Nat) (v : Value) :
  Du d = true → Cc n kp (match d with | some d => d :: W | none => W) (put e d v) (a.put d v) := by
 intro hd
 cases d with
 | none => exact h
 | some d =>
  refine ⟨by simp only [put, upd_ne e v (OT hd)]; exact h.1, by simpa [Act.put] using h.2.1, fun t ht hk => ?_⟩
  by_cases htd : t = d
  ·subst htd
   have : t < a.tmps.size := by rw [h.2.1]; exact ht
   simp [Act.put, put, upd_same, Array.getD, this]
  ·have hk' : dE kp t = true ∨ dE W t = true := by
    rcases hk with hk | hk
    ·exact .inl hk
    ·refine .inr ?_
     simp only [dE, Hl (fun e => htd e.symm)] at hk
     exact hk
   have h0 := h.2.2 t ht hk'
   simp only [put, upd_ne e v htd]
   rw [← h0]
   simp only [Act.put]
   have hlt : t < a.tmps.size := by rw [h.2.1]; exact ht
   have hne : ¬ d = t := fun e => htd e.symm
   simp [Array.getD, hlt, Array.getElem_setIfInBounds, hne]
def uponK (P : Program) (yl : Bool) (K : Value → World → Prop) (R : Ending → World → Prop) : Result Next → Prop
 | .ok (.value v) w => K v w
 | .ok .skip w => K undef w
 | .ok (.enter f args) w => Calls P f args w fun | .returned v, w' => K v w' | .panicked c, w' => R (.panicked c) w' | .outgrown, _ => False
 | .ok (.round l f tmps assign body) w => yl = true ∧ RoundIn Fence.wide 0 P l f tmps assign body w fun | .returned v, w' => K v w' | .panicked c, w' => R (.panicked c) w' | .outgrown, _ => False
 | .halt (.panic v) w => R (.panicked [{ v, recovered := false }]) w
 | _ => False
abbrev Fw (ro : Option Nat) : Fence := { Fence.wide with round := ro }
theorem Dw {ro : Option Nat} {m : Nat} {f : FuncId} {args : Array Value} {w : World} {R : Ending → World → Prop} : CallsIn (Fw ro) m P f args w R ↔ Calls P f args w R := callsIn_wide (n := m)
theorem TQ {ro : Option Nat} {m : Nat} {yl : Bool} {o : Oper} {a : Act} {next : Act → World → Prop} {Q : Exit → Act → World → Prop} {K : Value → World → Prop} {r : Result Next}
  (hn : ∀ v w', K v w' → next (a.put o.dst v) w') (hR : ∀ c w', R (.panicked c) w' → Q (.panic c) a w') (h : uponK P yl K R r) : o.uponIn (Fw ro) m P a next Q r := by
 have hd : (Fw ro).depth.isSome = true → 1 ≤ m := fun h => by simp [Fence.wide] at h
 cases r with
 | ok x w =>
  cases x with
  | value v => exact hn _ _ h
  | skip => exact hn _ _ h
  | enter f args =>
   refine ⟨hd, Dw.2 (Calls.mono h fun e w' he => ?_)⟩
   cases e with
   | returned v => exact hn _ _ he
   | panicked c => exact hR _ _ he
   | outgrown => exact he.elim
  | round l f tmps asn body =>
   obtain ⟨_, h2⟩ := h
   have h3 : RoundIn (Fw ro) (m - 1) P l f tmps asn body w _ := ⟨trivial, fun c cs _ => h2.2 c cs (room_wide _)⟩
   refine ⟨hd, h3.mono fun e w' he => ?_⟩
   cases e with
   | returned v => exact hn _ _ he
   | panicked c => exact hR _ _ he
   | outgrown => exact he.elim
  | _ => exact h.elim
 | halt x w => cases x <;> first | exact hR _ _ h | exact h.elim
section op
variable {K : Value → World → Prop} {w : World}
theorem uZ {yl : Bool} {s : Sem Value} (h : bi (s.run P w) R K) : uponK P yl K R ((do pure (Next.value (← s)) : Sem Next).run P w) := by
 simp only [Sem.run_bind]
 generalize s.run P w = r at *
 cases r with
 | ok v w' => exact h
 | halt x w' => cases x <;> first | exact h | exact h.elim
theorem agU {yl : Bool} {s : Sem Unit} (h : uw (s.run P w) R K) : uponK P yl K R ((do s; pure Next.skip : Sem Next).run P w) := by
 simp only [Sem.run_bind]
 generalize s.run P w = r at *
 cases r with
 | ok v w' => exact h
 | halt x w' => cases x <;> first | exact h | exact h.elim
theorem Jd {yl : Bool} {g : FuncId} {args : Array Value} (hok : Et P g = true) (h : lh P g args w R K) : uponK P yl K R ((callFunc g args).run P w) := by
 have hrun : (callFunc g args).run P w = .ok (.enter g args) w := by
  unfold Et at hok
  cases hf : P.funcs[g]? with
  | none => simp [hf] at hok
  | some fn =>
   simp only [hf, Option.any_some, Bool.and_eq_true, Bool.not_eq_true'] at hok
   have h1 : ¬ fn.body = none := by intro hb; simp [hb] at hok
   have h2 : ¬ fn.name = "runtime.NumGoroutine" := by intro hb; simp [hb] at hok
   simp [callFunc, program, Sem.run_bind, Sem.run, Result.andThen, hf, h2, h1]
 rw [hrun]
 exact h
end op
theorem Lr (e : Env) (xs : Array Operand) : xs.map (ev n e) = (evs n e xs.toList).toArray := by
 have : ∀ l : List Operand, l.map (ev n e) = evs n e l := by
  intro l; induction l with
  | nil => rfl
  | cons x xs ih => simp [evs, ih]
 apply Array.toList_inj.1
 simp [this]
theorem akG (e : Env) (xs : Array (Nat × Operand)) : (xs.map fun (i, x) => (i, ev n e x)) = (RJ n e xs.toList).toArray := by
 have : ∀ l : List (Nat × Operand), (l.map fun (i, x) => (i, ev n e x)) = RJ n e l := by
  intro l; induction l with
  | nil => rfl
  | cons x xs ih => obtain ⟨i, x⟩ := x; simp [RJ, ih]
 apply Array.toList_inj.1
 simp [this]
theorem Qx (e : Env) (x : Option Operand) : x.map (ev n e) = evo n e x := by cases x <;> rfl
theorem XB {op : BinOp} {t : TypeId} {x y : Operand} {a b : Value} (h : op ≠ .eql) (h' : op ≠ .neq) : eqGuard op t x y a b = pure () := by
 cases op <;> first | rfl | exact absurd rfl h | exact absurd rfl h'
theorem ZF (op : BinOp) (t : TypeId) (x y : Operand) (a b : Value) :
  (do eqGuard op t x y a b; binOp op t a b : Sem Value) = qI (isC x || isC y) op t a b := by
 unfold qI
 congr 1
 unfold eqGuard
 cases x <;> cases y <;> simp [isC] <;> rfl
theorem XC {yl : Bool} {o : Oper} {e : Env} {K : Value → World → Prop} {w : World} (h : OQ P n R yl o e w K) : uponK P yl K R ((execOp (ev n e) o).run P w) := by
 obtain ⟨dst, op, type, pos, after, guard⟩ := o
 cases op <;> simp only [OQ] at h <;> simp only [execOp]
 case move x => exact h
 case assign x => exact h
 case pick c x y =>
  cases hc : ev n e c with
  | bool t =>
   rw [hc] at h
   cases t <;> (simp only [pick] at h; simp [asBool, Sem.run_bind, Sem.run, Result.andThen, uponK]; exact h)
  | _ => rw [hc] at h; exact h.elim
 case nilCheck x =>
  cases hc : ev n e x with
  | pointer p =>
   rw [hc] at h
   cases p with
   | none => exact h.elim
   | some p => exact h
  | _ => rw [hc] at h; exact h.elim
 case binOp op t x y u =>
  cases op
  case eql => rw [← ZF] at h; exact uZ h
  case neq => rw [← ZF] at h; exact uZ h
  all_goals (rw [XB (by simp) (by simp)]; exact uZ h)
 case call c =>
  obtain ⟨callee, args, argTypes⟩ := c
  cases callee with
  | invoke r m => exact h.elim
  | builtin b =>
   simp only [resolve]
   cases b <;> simp only [] at h <;> first
    | exact h.elim
    | (rw [← Lr] at h; exact uZ h)
  | value f =>
   cases f with
   | func g =>
    simp only [] at h
    split at h
    ·rename_i hok
     rw [← Lr] at h
     have h2 : ((do let d ← resolve (ev n e) { callee := .value (.func g), args := args, argTypes := argTypes } type; invoke d.target d.args : Sem Next)) = callFunc g (args.map (ev n e)) := by
      simp [resolve, ev, Deferred.ofValue, invoke, bind, Sem.bind, pure]
     rw [h2]
     exact Jd hok h
    ·exact h.elim
   | _ =>
    simp only [] at h
    rw [← Lr] at h
    simp only [resolve]
    revert h
    generalize ev n e _ = fv
    intro h
    cases yl with
    | false =>
     simp only [] at h
     unfold aiC at h
     split at h
     ·rename_i g first cap
      have h2 : ((do let d ← Deferred.ofValue (.func (.func g) first cap) (args.map (ev n e)); invoke d.target d.args : Sem Next)) = callFunc g (first ++ args.map (ev n e) ++ cap) := by
       simp [Deferred.ofValue, invoke, bind, Sem.bind, pure]
      rw [h2]
      exact Jd h.1 h.2
     ·exact h.elim
    | true =>
     simp only [] at h
     unfold CV vG at h
     split at h
     ·rename_i g first cap
      have h2 : ((do let d ← Deferred.ofValue (.func (.func g) first cap) (args.map (ev n e)); invoke d.target d.args : Sem Next)) = callFunc g (first ++ args.map (ev n e) ++ cap) := by
       simp [Deferred.ofValue, invoke, bind, Sem.bind, pure]
      rw [h2]
      exact Jd h.1 h.2
     ·rename_i l first cap
      obtain ⟨rfl, rfl, fn, tmps, asn, body, hy, hr⟩ := h
      have h2 : ((do let d ← Deferred.ofValue (.func (.yield l) #[] #[]) (args.map (ev n e)); invoke d.target d.args : Sem Next)).run P w = .ok (.round l fn tmps asn body) w := by
       have : ((do let d ← Deferred.ofValue (.func (.yield l) #[] #[]) (args.map (ev n e)); invoke d.target d.args : Sem Next)) = Instr.yield l (args.map (ev n e)) := by
        simp [Deferred.ofValue, invoke, bind, Sem.bind, pure]
       rw [this]; exact hy
      rw [h2]
      exact ⟨rfl, hr⟩
     ·exact h.elim
 all_goals first
  | exact h.elim
  | exact uZ h
  | exact agU h
  | (rw [← akG] at h; exact uZ h)
  | (rw [← Lr, ← Lr] at h; exact uZ h)
  | (rw [← Qx] at h; exact uZ h)
  | (rw [← Qx, ← Qx, ← Qx] at h; exact uZ h)
theorem zV {W : List Nat} : ∀ {l : List Nat}, allIn kp W l = true → ∀ t ∈ l, dE kp t = true ∨ dE W t = true
 | [], _, t, ht => by cases ht
 | x :: xs, h, t, ht => by
  simp only [allIn] at h
  cases hx : dE kp x with
  | true =>
   simp only [hx] at h
   rcases List.mem_cons.1 ht with rfl | ht
   ·exact .inl hx
   ·exact zV h t ht
  | false =>
   simp only [hx] at h
   cases hy : dE W x with
   | true =>
    simp only [hy] at h
    rcases List.mem_cons.1 ht with rfl | ht
    ·exact .inr hy
    ·exact zV h t ht
   | false => simp [hy] at h
theorem Ls (all : Array Oper) (j : Nat) : Eu all j = (all[j]?).bind (·.dst) := by
 unfold Eu; cases all[j]? <;> rfl
theorem XD {all : Array Oper} {o : Oper} {W : List Nat} {e : Env} {a : Act} (hr : Cc n kp W e a) (hl : allIn kp W (looks all o) = true) (hs : wB o = false) :
  execOp a.eval o = execOp (ev n e) o := by
 refine execOp_congr o ?_ fun x hx => zk hr x fun t ht => zV hl t ?_
 ·intro cs b hb; simp [wB, hb] at hs
 ·subst ht
  exact List.mem_append_left _ (List.mem_filterMap.2 ⟨.tmp t, by simpa using hx, rfl⟩)
theorem Qy {all : Array Oper} {W : List Nat} {e : Env} {a : Act} {j t : Nat} (hr : Cc n kp W e a) (hs : Eu all j = some t) (hk : dE kp t = true ∨ dE W t = true) :
  yielded all a.tmps j = match rd n e t with | .bool b => some b | _ => none := by
 have h1 := zk hr (.tmp t) (fun t' h => by cases h; exact hk)
 simp only [Act.eval, ev] at h1
 unfold yielded
 rw [← Ls, hs]
 simp only [Option.bind_some]
 rw [← h1]
 by_cases ht : t < a.tmps.size
 ·have h2 : a.tmps.getD t undef = a.tmps[t] := by simp [Array.getD, ht]
  rw [h2, Array.getElem?_eq_getElem ht]
  generalize a.tmps[t] = v
  cases v <;> rfl
 ·simp [Array.getD, ht, Array.getElem?_eq_none (Nat.le_of_not_lt ht), undef]
theorem TR {o : Oper} (h : wB o = false) : ∀ c, o.op ≠ .defer c := by
 intro c hc
 simp [wB, hc] at h
theorem Gh {ro : Option Nat} {m : Nat} {all : Array Oper} {o : Oper} {W : List Nat} {e : Env} {a : Act} {next : Act → World → Prop} {Q : Exit → Act → World → Prop} {K : Value → World → Prop} {w : World}
  (hr : Cc n kp W e a) (hl : allIn kp W (looks all o) = true) (hs : wB o = false)
  (hn : ∀ v w', K v w' → next (a.put o.dst v) w') (hR : ∀ c w', R (.panicked c) w' → Q (.panic c) a w')
  (h : Lm P n R true all o e w K) :
  if Region.wanted o (yielded all a.tmps) then o.wpIn (Fw ro) m P a w next Q else (∀ f, o.about P w a.eval = some f → (Fw ro).fn f) ∧ next (a.put o.dst undef) w := by
 unfold Lm at h
 have hwp : OQ P n R true o e w K → o.wpIn (Fw ro) m P a w next Q := fun h => by
  unfold Oper.wpIn
  refine ⟨fun _ _ => trivial, ?_⟩
  rw [Oper.semAt_eq _ _ _ (TR hs), XD hr hl hs]
  exact TQ hn hR (XC h)
 cases hg : o.guard with
 | none =>
  simp only [hg] at h
  simp only [Region.wanted, hg, if_true]
  exact hwp h
 | some jw =>
  obtain ⟨j, want⟩ := jw
  simp only [hg] at h
  simp only [Region.wanted, hg]
  cases ht : Eu all j with
  | none =>
   simp only [ht] at h
   have : yielded all a.tmps j = none := by unfold yielded; rw [← Ls, ht]; rfl
   simp only [this]
   exact (by simpa using ⟨fun _ _ => trivial, hn _ _ h⟩)
  | some t =>
   simp only [ht] at h
   have hk := zV hl t (List.mem_append_right _ (by simp [hg, ht]))
   rw [Qy hr ht hk]
   revert h
   generalize rd n e t = v
   intro h
   unfold gd at h
   cases v with
   | bool b =>
    simp only [] at h ⊢
    cases hb : b == want with
    | true =>
     simp only [hb] at h
     have : (some b == some want) = true := by simpa using hb
     simp only [this, if_true]
     exact hwp h
    | false =>
     simp only [hb] at h
     have : (some b == some want) = false := by simpa using hb
     simp only [this]
     exact (by simpa using ⟨fun _ _ => trivial, hn _ _ h⟩)
   | _ => exact (by simpa using ⟨fun _ _ => trivial, hn _ _ h⟩)
theorem zT {o : Oper} {os : List Oper} (h : xI (o :: os) = true) : wB o = false ∧ xI os = true := by
 simp only [xI] at h
 cases hs : wB o with
 | true => simp [hs] at h
 | false => simp only [hs] at h; exact ⟨rfl, h⟩
theorem Dv {all : Array Oper} {W : List Nat} {o : Oper} {os : List Oper} (h : xH kp all W (o :: os) = true) :
  (allIn kp W (looks all o) = true ∧ Du o.dst = true) ∧ xH kp all (match o.dst with | some d => d :: W | none => W) os = true := by
 simp only [xH] at h
 cases ha : allIn kp W (looks all o) with
 | true =>
  cases hd : Du o.dst with
  | true => simp only [ha, hd] at h; exact ⟨⟨rfl, rfl⟩, h⟩
  | false => simp [ha, hd] at h
 | false => simp [ha] at h
theorem MG {e : Env} {d : Option Nat} {v : Value} (h : Du d = true) : put e d v mkS = e mkS := by
 cases d with
 | none => rfl
 | some d => exact upd_ne e v (OT h)
theorem Jc {e : Env} {d : Option Nat} {v : Value} (h : Du d = true) : uC kp e d v mkS = e mkS := by
 cases d with
 | none => rfl
 | some d =>
  simp only [uC]
  cases dE kp d with
  | true => exact upd_ne e v (OT h)
  | false => rfl
theorem Jb {ek e : Env} {d : Option Nat} {v : Value} (h : ∀ t, dE kp t = true → ek t = e t) : ∀ t, dE kp t = true → uC kp ek d v t = put e d v t := by
 intro t ht
 cases d with
 | none => exact h t ht
 | some d =>
  simp only [uC, put]
  by_cases htd : t = d
  ·subst htd; simp only [ht, upd_same]
  ·cases hd : dE kp d with
   | true => simp only [upd_ne _ _ htd]; exact h t ht
   | false => simp only [upd_ne _ _ htd]; exact h t ht
theorem zU {ek : Env} {o : Oper} {os : List Oper} {v : Value} {t : Nat} (h : dE (kW kp (o :: os)) t = false) : uC kp ek o.dst v t = ek t ∧ dE (kW kp os) t = false := by
 have hins : ∀ x l, dE (RP x l) t = false → x ≠ t ∧ dE l t = false := by
  intro x l hx
  unfold RP at hx
  cases hm : dE l x with
  | true =>
   simp only [hm] at hx
   refine ⟨fun e => ?_, hx⟩
   subst e; rw [hm] at hx; cases hx
  | false =>
   simp only [hm] at hx
   simp only [dE] at hx
   cases hb : Nat.beq x t with
   | true => simp [hb] at hx
   | false => simp only [hb] at hx; exact ⟨(fun e => by rw [(rE x t).2 e] at hb; cases hb), hx⟩
 simp only [kW] at h
 cases hd : o.dst with
 | none => simp only [hd] at h; exact ⟨rfl, h⟩
 | some d =>
  simp only [hd] at h
  simp only [uC]
  cases hk : dE kp d with
  | true =>
   simp only [hk] at h
   obtain ⟨h1, h2⟩ := hins _ _ h
   exact ⟨upd_ne _ _ (fun e => h1 e.symm), h2⟩
  | false => simp only [hk] at h; exact ⟨rfl, h⟩
theorem TS {ro : Option Nat} {m : Nat} {all : Array Oper} {K : Env → World → Prop} {Q : Exit → Act → World → Prop} {e0 : Env} :
  ∀ (l : List Oper) (W : List Nat) (e ek : Env) (a : Act) (w : World), xH kp all W l = true → xI l = true → Cc n kp W e a → (∀ t, dE kp t = true → ek t = e t) → e mkS = e0 mkS → ek mkS = e0 mkS →
  (hQ : ∀ e' a' w', qE n kp e' a' → (∀ t, dE (kW kp l) t = false → e' t = ek t) → K e' w' → Q .normal a' w') → (hP : ∀ c a' w', a'.defers = OJ (e0 mkS) → R (.panicked c) w' → Q (.panic c) a' w') →
  MF P n kp R all K l e ek w → wpListIn (Fw ro) m P all Q l a w
 | [], W, e, ek, a, w, _, _, hr, hk, h0, h0k, hQ, _, h =>
  wpListIn_nil (hQ ek a w ⟨by rw [hr.1, h0, h0k], hr.2.1, fun t ht hm => by
   rcases hm with hm | hm
   ·rw [hr.2.2 t ht (.inl hm), hk t hm]
   ·simp [dE] at hm⟩ (fun _ _ => rfl) h)
 | o :: os, W, e, ek, a, w, hrd, hns, hr, hk, h0, h0k, hQ, hP, h => by
  obtain ⟨⟨h1, hd⟩, h2⟩ := Dv hrd
  obtain ⟨h3, h4⟩ := zT hns
  refine wpListIn_step fun K' hK' => ?_
  refine Gh (K := fun v w' => MF P n kp R all K os (put e o.dst v) (uC kp ek o.dst v) w') hr h1 h3 (fun v w' hv => hK' _ _ ?_) (fun c w' hc => hP c a w' (by rw [hr.1, h0]) hc) h
  exact TS os _ _ _ _ _ h2 h4 (Hf hr o.dst v hd) (Jb hk) (by rw [MG hd, h0]) (by rw [Jc hd, h0k])
   (fun e' a' w' hr' hf hk' => hQ e' a' w' hr' (fun t ht => by obtain ⟨h5, h6⟩ := zU (v := v) (ek := ek) ht; rw [hf t h6, h5]) hk') hP hv
section drawn
variable {ro : Option Nat} {m : Nat} {ops : Array Oper} {T : World → World → Prop} {Q : Exit → Act → World → Prop}
def mv (P : Program) (ops : Array Oper) (T : World → World → Prop) (i : Nat) (w w' : World) : Prop := (RN ops i = true ∨ T w w') ∧ ∀ o, ops[i]? = some o → loud P o = false → Ext w w'
def wA (ro : Option Nat) (m : Nat) (P : Program) (ops : Array Oper) (T : World → World → Prop) (Q : Exit → Act → World → Prop) : Nat → Array Bool → Act → World → Prop
 | 0, listed, a, w => Region.ready .any ops listed = [] ∧ Q .normal a w
 | f + 1, listed, a, w => Region.ready .any ops listed ≠ [] ∧ ∀ i ∈ Region.ready .any ops listed,
   wpOpIn (Fw ro) m P ops Q i (fun a' w' => mv P ops T i w w' ∧ ∀ w'', Ext w' w'' → wA ro m P ops T Q f (listed.setIfInBounds i true) a' w'') a w
theorem Ext.refl (w : World) : Ext w w := RowKit.Below.refl _ _
theorem Ext.trans {a b c : World} (h : Ext a b) (k : Ext b c) : Ext a c := RowKit.Below.trans h (k.mono h.size)
theorem Gi : ∀ (f : Nat) (listed : Array Bool) (a : Act) (w : World), wA ro m P ops T Q f listed a w → wpAnyIn (Fw ro) m P .any ops Q f listed a w
 | 0, _, _, _, h => h
 | f + 1, _, _, _, h => ⟨fun h0 => absurd h0 h.1, fun i hi => wpOpIn_mono (fun a' w' hk => Gi f _ a' w' (hk.2 w' (Ext.refl _))) (h.2 i hi)⟩
def Yt (P : Program) (ops : Array Oper) (T : World → World → Prop) (o : Oper) (v : Value) (a : Act) (w : World) : Prop :=
 ∀ w', T w w' → if Region.wanted o (yielded ops a.tmps) then uponK P false (fun u w'' => u = v ∧ Ext w' w'') aZ ((execOp a.eval o).run P w') else v = undef
theorem Yt.later {o : Oper} {v : Value} {a : Act} {w w1 : World} (hT : Moves T) (h : Yt P ops T o v a w) (h1 : T w w1) : Yt P ops T o v a w1 := fun w' hw' => h w' (hT.trans h1 hw')
theorem Yt.of_same {o : Oper} {v : Value} {a a' : Act} {w : World} (h : Yt P ops T o v a w) (he : execOp a'.eval o = execOp a.eval o)
  (hw : Region.wanted o (yielded ops a'.tmps) = Region.wanted o (yielded ops a.tmps)) : Yt P ops T o v a' w := by
 intro w' hw'
 have := h w' hw'
 rw [he, hw]
 exact this
theorem Yt.wpOp {i : Nat} {o : Oper} {v : Value} {a : Act} {w : World} {K : Act → World → Prop} (hT : Moves T) (hi : ops[i]? = some o) (hdf : ∀ c, o.op ≠ .defer c) (h : Yt P ops T o v a w)
  (hK : ∀ w', Ext w w' → K (a.put o.dst v) w') : wpOpIn (Fw ro) m P ops Q i K a w := by
 unfold Go.wpOpIn
 simp only [hi]
 have h0 := h w (hT.refl w)
 split
 ·rename_i hw
  rw [if_pos hw] at h0
  unfold Oper.wpIn
  refine ⟨fun _ _ => trivial, ?_⟩
  rw [Oper.semAt_eq _ _ _ hdf]
  refine TQ (K := fun u w'' => u = v ∧ Ext w w'') (R := aZ) (fun u w' hu => ?_) (fun _ _ hc => hc.elim) h0
  rw [hu.1]
  exact hK _ hu.2
 ·rename_i hw
  rw [if_neg hw] at h0
  rw [← h0]
  exact ⟨fun _ _ => trivial, hK w (Ext.refl _)⟩
theorem acP {j : Nat} {oi oj : Oper} {v : Value} (hj : ops[j]? = some oj) (hap : oi.apart ops oj = true) (hsj : ∀ cs b, oj.op ≠ .select cs b) (hdf : ∀ c, oj.op ≠ .defer c)
  (hQ : ∀ c a w, Q (.panic c) (a.put oi.dst v) w → Q (.panic c) a w) {K : Act → World → Prop} {a : Act} {w : World} (hlo : ¬ LetsOut Q)
  (h : wpOpIn (Fw ro) m P ops Q j K (a.put oi.dst v) w) :
  wpOpIn (Fw ro) m P ops Q j (fun a' w' => K (a'.put oi.dst v) w' ∧ ∃ ds u, a' = ({ a with defers := ds } : Act).put oj.dst u) a w := by
 obtain ⟨h1, h2, h3⟩ := Oper.apart_spec hap
 have hcomm : ∀ (b : Act) u, (b.put oi.dst v).put oj.dst u = (b.put oj.dst u).put oi.dst v := fun b u => Act.put_comm b v u h2
 unfold wpOpIn at *
 simp only [hj] at *
 rw [wanted_put oj a oi.dst v h1] at h
 split
 ·rename_i hw
  simp only [hw, if_true] at h
  unfold Oper.wpIn at *
  refine ⟨fun _ _ => trivial, ?_⟩
  replace h := h.2
  rw [Oper.semAt_eq _ _ _ hdf] at h ⊢
  rw [execOp_put oj hsj a oi.dst v h1] at h
  generalize (execOp a.eval oj).run P w = r at *
  cases r with
  | ok x w' =>
   cases x <;> simp only [Oper.uponIn] at h ⊢
   case value u => rw [hcomm] at h; exact ⟨h, a.defers, u, rfl⟩
   case skip => rw [hcomm] at h; exact ⟨h, a.defers, _, rfl⟩
   case defer d =>
    rw [Act.put_defers, hcomm] at h
    exact ⟨h, _, _, rfl⟩
   case enter f args =>
    refine ⟨h.1, CallsIn.mono h.2 fun e w'' he => ?_⟩
    cases e with
    | returned u =>
     have he' : K ((a.put oi.dst v).put oj.dst u) w'' := he
     rw [hcomm] at he'; exact ⟨he', a.defers, u, rfl⟩
    | panicked c => exact hQ _ _ _ he
    | outgrown => exact he
   case row row args => exact ⟨h.1, RowsIn.mono h.2 fun u w'' he => ⟨by rw [hcomm] at he; exact he, a.defers, u, rfl⟩⟩
   case round l f tmps asn body =>
    refine ⟨h.1, RoundIn.mono h.2 fun e w'' he => ?_⟩
    cases e with
    | returned u =>
     have he' : K ((a.put oi.dst v).put oj.dst u) w'' := he
     rw [hcomm] at he'; exact ⟨he', a.defers, u, rfl⟩
    | panicked c => exact hQ _ _ _ he
    | outgrown => exact he
  | halt x w' =>
   cases x <;> simp only [Oper.uponIn] at h ⊢
   exact hQ _ _ _ h
 ·rename_i hw
  simp only [hw] at h
  rw [hcomm] at h
  exact ⟨fun _ _ => trivial, h.2, a.defers, _, rfl⟩
theorem Ey {i j : Nat} {listed : Array Bool} (hi : i ∈ Region.ready .any ops listed) (hj : j ∈ Region.ready .any ops listed) : Region.waitsFor .any ops j i = false := by
 cases hw : Region.waitsFor .any ops j i with
 | false => rfl
 | true =>
  obtain ⟨oj, hoj, e, he, hb, hon⟩ := Region.waitsFor_spec hw
  obtain ⟨_, oj', hoj', hall⟩ := mem_ready.1 hj
  have : oj' = oj := Option.some.inj (hoj'.symm.trans hoj)
  subst this
  have h1 := hall e he hb
  have h0 := (mem_ready.1 hi).1
  rw [hon] at h1
  rcases Nat.lt_or_ge i listed.size with h' | h'
  ·simp [h'] at h0 h1; rw [h0] at h1; cases h1
  ·simp [Array.getElem?_eq_none h'] at h1
def Down (ops : Array Oper) (listed : Array Bool) : Prop := ∀ j i, Region.waitsFor .any ops j i = true → listed.getD j false = true → listed.getD i false = true
theorem TP (ops : Array Oper) (n : Nat) : Down ops (Array.replicate n false) := fun j i _ h => by
 rcases Nat.lt_or_ge j n with h' | h'
 ·simp [Array.getD_eq_getD_getElem?, h'] at h
 ·simp [Array.getD_eq_getD_getElem?, h'] at h
theorem Gj {i j : Nat} {listed : Array Bool} (hj : j ∈ Region.ready .any ops listed) (hw : Region.waitsFor .any ops j i = true) : listed.getD i false = true := by
 obtain ⟨oj, hoj, e, he, hb, hon⟩ := Region.waitsFor_spec hw
 obtain ⟨_, oj', hoj', hall⟩ := mem_ready.1 hj
 have : oj' = oj := Option.some.inj (hoj'.symm.trans hoj)
 subst this
 rw [← hon]; exact hall e he hb
theorem getD_set_true {listed : Array Bool} {i k : Nat} (h : listed.getD k false = true) : (listed.setIfInBounds i true).getD k false = true := by
 by_cases hik : i = k
 ·subst hik
  rcases Nat.lt_or_ge i listed.size with h' | h'
  ·simp [Array.getD_eq_getD_getElem?, h']
  ·simp [Array.getD_eq_getD_getElem?, Array.getElem?_eq_none h'] at h
 ·rw [getD_set_ne false hik]; exact h
theorem OU {i : Nat} {listed : Array Bool} (hi : i ∈ Region.ready .any ops listed) (hd : Down ops listed) : Down ops (listed.setIfInBounds i true) := fun j k hw hj => by
 by_cases hij : i = j
 ·subst hij; exact getD_set_true (Gj hi hw)
 ·rw [getD_set_ne false hij] at hj; exact getD_set_true (hd j k hw hj)
theorem NF {l : List Nat} {t : Nat} (h : dE l t = true) : t ∈ l := by
 induction l with
 | nil => cases h
 | cons x xs ih =>
  simp only [dE] at h
  split at h
  ·rename_i hb; rw [(rE _ _).1 hb]; exact List.mem_cons_self ..
  ·exact List.mem_cons_of_mem _ (ih h)
theorem Gl {listed : Array Bool} (hd : Down ops listed) : ∀ (f : Nat) (S : List Nat), (∀ k ∈ S, listed.getD k false = true) → ∀ k ∈ Xx ops f S, listed.getD k false = true
 | 0, _, h => h
 | f + 1, S, h => by
  unfold Xx
  split
  ·exact h
  ·rename_i x l hx
   refine Gl hd f _ fun k hk => ?_
   rcases List.mem_append.1 hk with hk | hk
   ·rw [← hx] at hk
    have h2 := (List.mem_filter.1 hk).2
    split at h2
    ·cases h2
    ·obtain ⟨j, hj, hw⟩ := List.any_eq_true.1 h2
     exact hd j k hw (h j hj)
   ·exact h k hk
theorem TT {i j : Nat} {listed : Array Bool} (hd : Down ops listed) (hi : i ∈ Region.ready .any ops listed) (hj : j ∈ Region.ready .any ops listed) (hc : RN ops j = true) : i = j := by
 have hlt : i < ops.size := by
  obtain ⟨_, oi, hoi, _⟩ := mem_ready.1 hi
  exact (Array.getElem?_eq_some_iff.1 hoi).1
 have h1 := List.all_eq_true.1 hc i (List.mem_range.2 hlt)
 simp only [Bool.or_eq_true] at h1
 rcases h1 with (h1 | h1 | h1) | h1
 ·exact (rE _ _).1 h1
 ·rw [Ey hi hj] at h1; cases h1
 ·rw [Ey hj hi] at h1; cases h1
 ·exfalso
  have h2 := Gl hd _ _ (fun k hk => Gj hj (List.mem_filter.1 hk).2) i (NF h1)
  have h0 := (mem_ready.1 hi).1
  rcases Nat.lt_or_ge i listed.size with h' | h'
  ·simp [Array.getD_eq_getD_getElem?, h'] at h0 h2; rw [h0] at h2; cases h2
  ·simp [Array.getD_eq_getD_getElem?, Array.getElem?_eq_none h'] at h2
theorem Qz : ∀ {L : List (List Nat)} {i : Nat}, early L i = true → ∀ S ∈ L, dE S i = true
 | [], _, h, _, _ => by cases h
 | S :: L, i, h, S', hS => by
  simp only [early] at h
  split at h
  ·rename_i hm
   rcases List.mem_cons.1 hS with rfl | hS
   ·exact hm
   ·split at h
    ·cases hS
    ·exact Qz h S' hS
  ·cases h
theorem agV {i j : Nat} {oj : Oper} {listed : Array Bool} (he : early (Qq P ops) i = true) (hd : Down ops listed) (hi : i ∈ Region.ready .any ops listed) (hj : j ∈ Region.ready .any ops listed) (hoj : ops[j]? = some oj) (hl : loud P oj = true) (hc : RN ops j = false) : False := by
 have hlt : j < ops.size := (Array.getElem?_eq_some_iff.1 hoj).1
 have hm := Qz he _ (List.mem_map.2 ⟨j, List.mem_filter.2 ⟨List.mem_range.2 hlt, by simp only [hoj, hl, hc]⟩, rfl⟩)
 have h2 := Gl hd _ _ (fun k hk => Gj hj (List.mem_filter.1 hk).2) i (NF hm)
 have h0 := (mem_ready.1 hi).1
 rcases Nat.lt_or_ge i listed.size with h' | h'
 ·simp [Array.getD_eq_getD_getElem?, h'] at h0 h2; rw [h0] at h2; cases h2
 ·simp [Array.getD_eq_getD_getElem?, Array.getElem?_eq_none h'] at h2
theorem aeR : Moves Ext := ⟨Ext.refl, Ext.trans, fun h => h⟩
theorem agW {i : Nat} {oi : Oper} {v : Value} {T0 : World → World → Prop} (hT : Moves T) (hT0 : Moves T0) (hqi : loud P oi = false) (hm : ∀ (j : Nat) (oj : Oper) (listed : Array Bool) (w w' : World), Down ops listed → i ∈ Region.ready .any ops listed → j ∈ Region.ready .any ops listed → ops[j]? = some oj → j ≠ i → mv P ops T j w w' → T0 w w') (hi : ops[i]? = some oi) (hsel : ∀ (j : Nat) (o : Oper) cs b, ops[j]? = some o → o.op ≠ .select cs b) (hdf : ∀ (j : Nat) (o : Oper), ops[j]? = some o → ∀ c, o.op ≠ .defer c) (hlo : ¬ LetsOut Q)
  (hQ : ∀ c a d w, Q (.panic c) (a.put d v) w → Q (.panic c) a w) :
  ∀ (f : Nat) (listed : Array Bool) (a : Act) (w : World), Down ops listed →
   (∀ j oj, ops[j]? = some oj → j ≠ i → listed.getD j true = false → (∀ e ∈ oj.after, Region.binds .any e = true → e.on ≠ i) → oi.apart ops oj = true) →
   i ∈ Region.ready .any ops listed → Yt P ops T0 oi v a w →
   (∀ w', Ext w w' → wA ro m P ops T Q f (listed.setIfInBounds i true) (a.put oi.dst v) w') → wA ro m P ops T Q (f + 1) listed a w := by
 intro f
 induction f with
 | zero =>
  intro listed a w _ _ hr hy H
  refine ⟨fun h => (by rw [h] at hr; cases hr), fun j hj => ?_⟩
  by_cases hji : j = i
  ·subst hji
   exact hy.wpOp hT0 hi (hdf _ _ hi) fun w' hw' => ⟨⟨.inr (hT.ext hw'), fun _ _ _ => hw'⟩, fun w'' hw'' => H w'' (Ext.trans hw' hw'')⟩
  ·have := ready_mono hj hji
   rw [(H w (Ext.refl _)).1] at this
   cases this
 | succ f ih =>
  intro listed a w hdn hfree hr hy H
  refine ⟨fun h => (by rw [h] at hr; cases hr), fun j hj => ?_⟩
  by_cases hji : j = i
  ·subst hji
   exact hy.wpOp hT0 hi (hdf _ _ hi) fun w' hw' => ⟨⟨.inr (hT.ext hw'), fun _ _ _ => hw'⟩, fun w'' hw'' => H w'' (Ext.trans hw' hw'')⟩
  ·have h1 := (H w (Ext.refl _)).2 j (ready_mono hj hji)
   obtain ⟨hjun, oj, hoj, hall⟩ := mem_ready.1 hj
   have hnw := Ey hr hj
   have hnot : ∀ e ∈ oj.after, Region.binds .any e = true → e.on ≠ i := fun e he hb heq => by
    unfold Region.waitsFor at hnw
    simp only [hoj] at hnw
    have : (oj.after.any fun e => Region.binds .any e && e.on == i) = true := Array.any_eq_true'.2 ⟨e, he, by simp [hb, heq]⟩
    rw [this] at hnw; cases hnw
   have hap := hfree j oj hoj hji hjun hnot
   have h2 := acP hoj hap (fun cs b => hsel j oj cs b hoj) (hdf _ _ hoj) (fun c a w => hQ c a _ w) hlo h1
   have hfree' : ∀ k ok, ops[k]? = some ok → k ≠ i → (listed.setIfInBounds j true).getD k true = false →
     (∀ e ∈ ok.after, Region.binds .any e = true → e.on ≠ i) → oi.apart ops ok = true := fun k ok hk hki hun hno => by
    refine hfree k ok hk hki ?_ hno
    by_cases hjk : j = k
    ·subst hjk; exact hjun
    ·rw [getD_set_ne true hjk] at hun; exact hun
   obtain ⟨_, _, h3⟩ := Oper.apart_spec hap
   refine wpOpIn_mono (fun a' w' hk => ?_) h2
   obtain ⟨⟨hc, hk⟩, ds, u, rfl⟩ := hk
   have hTw : T0 w w' := hm j oj listed w w' hdn hr hj hoj hji hc
   refine ⟨hc, fun w'' hw'' => ?_⟩
   refine ih (listed.setIfInBounds j true) _ w'' (OU hj hdn) hfree' (ready_mono hr (Ne.symm hji)) ?_ fun w3 hw3 => ?_
   ·refine Yt.later hT0 (Yt.of_same (a := a) hy ?_ ?_) (hT0.trans hTw (hT0.ext hw''))
    ·rw [execOp_put oi (fun cs b => hsel i oi cs b hi) _ oj.dst u h3]
     rfl
    ·rw [wanted_put oi _ oj.dst u h3]
   ·rw [Array.setIfInBounds_comm _ _ hji]
    exact hk w3 (Ext.trans hw'' hw3)
end drawn
theorem agX {l : List Oper} (h : xI l = true) : ∀ o ∈ l, wB o = false := by
 induction l with
 | nil => intro o ho; cases ho
 | cons x xs ih =>
  intro o ho
  obtain ⟨h1, h2⟩ := zT h
  rcases List.mem_cons.1 ho with rfl | ho
  ·exact h1
  ·exact ih h2 o ho
theorem acQ {l : List Oper} (h : xI l = true) : ∀ o ∈ l, ∀ cs b, o.op ≠ .select cs b := by
 induction l with
 | nil => intro o ho; cases ho
 | cons x xs ih =>
  obtain ⟨h1, h2⟩ := zT h
  intro o ho cs b hb
  rcases List.mem_cons.1 ho with rfl | ho
  ·simp [wB, hb] at h1
  ·exact ih h2 o ho cs b hb
theorem NG {ops : Array Oper} : ∀ {l : List Nat} {i : Nat}, Ha P ops l = some i → i ∈ l ∧ ∃ o, ops[i]? = some o ∧ loud P o = false
 | [], i, h => by simp [Ha] at h
 | j :: js, i, h => by
  simp only [Ha] at h
  split at h
  ·rename_i o ho
   split at h
   ·rename_i hl
    cases h
    exact ⟨List.mem_cons_self .., o, ho, hl⟩
   ·obtain ⟨h1, h2⟩ := NG h
    exact ⟨List.mem_cons_of_mem _ h1, h2⟩
  ·cases h
theorem Lt {all : Array Oper} {o : Oper} {W : List Nat} {e : Env} {a : Act} {T : World → World → Prop} {v : Value} {w : World}
  (hr : Cc n kp W e a) (hl : allIn kp W (looks all o) = true) (hs : wB o = false)
  (h : ∀ w', T w w' → Lm P n aZ false all o e w' fun u w'' => u = v ∧ Ext w' w'') : Yt P all T o v a w := by
 intro w' hw'
 have h := h w' hw'
 unfold Lm at h
 have hwp : OQ P n aZ false o e w' (fun u w'' => u = v ∧ Ext w' w'') → uponK P false (fun u w'' => u = v ∧ Ext w' w'') aZ ((execOp a.eval o).run P w') := fun h => by
  rw [XD hr hl hs]; exact XC h
 cases hg : o.guard with
 | none =>
  simp only [hg] at h
  simp only [Region.wanted, hg, if_true]
  exact hwp h
 | some jw =>
  obtain ⟨j, want⟩ := jw
  simp only [hg] at h
  simp only [Region.wanted, hg]
  cases ht : Eu all j with
  | none =>
   simp only [ht] at h
   have : yielded all a.tmps j = none := by unfold yielded; rw [← Ls, ht]; rfl
   simp only [this]
   simpa using h.1.symm
  | some t =>
   simp only [ht] at h
   have hk := zV hl t (List.mem_append_right _ (by simp [hg, ht]))
   rw [Qy hr ht hk]
   revert h
   generalize rd n e t = x
   intro h
   unfold gd at h
   cases x with
   | bool b =>
    simp only [] at h ⊢
    cases hb : b == want with
    | true =>
     simp only [hb] at h
     have : (some b == some want) = true := by simpa using hb
     simp only [this, if_true]
     exact hwp h
    | false =>
     simp only [hb] at h
     have : (some b == some want) = false := by simpa using hb
     simp only [this]
     simpa using h.1.symm
   | _ => simpa using h.1.symm
theorem NH {ops : List Oper} {o : Oper} (ho : o ∈ ops) {ek : Env} {v : Value} {t : Nat} (h : dE (kW kp ops) t = false) : uC kp ek o.dst v t = ek t := by
 induction ops with
 | nil => cases ho
 | cons x xs ih =>
  rcases List.mem_cons.1 ho with rfl | ho
  ·exact (zU (v := v) (ek := ek) h).1
  ·exact ih ho (zU (v := v) (ek := ek) (o := x) h).2
theorem QA {ops : Array Oper} {i : Nat} {is : List Nat} {l : List Oper} (h : I9 ops (i :: is) = some l) : ∃ o l', ops[i]? = some o ∧ I9 ops is = some l' ∧ l = o :: l' := by
 simp only [I9] at h
 split at h
 ·rename_i o l' h1 h2
  cases h
  exact ⟨o, l', h1, h2, rfl⟩
 ·cases h
theorem TN {ro : Option Nat} {m : Nat} {ops : Array Oper} {T : World → World → Prop} {K : Env → World → Prop} {Q : Exit → Act → World → Prop} (hT : Moves T) (hns : xI ops.toList = true) (hdf : ∀ (i : Nat) (o : Oper), ops[i]? = some o → ∀ c, o.op ≠ .defer c) (hlo : ¬ LetsOut Q)
  (hQp : ∀ c a d (v : Value) w, Q (.panic c) (a.put d v) w → Q (.panic c) a w) (e0 : Env) (hP : ∀ c a' w', a'.defers = OJ (e0 mkS) → R (.panicked c) w' → Q (.panic c) a' w')
  (hQ : ∀ e' a' w', qE n kp e' a' → (∀ t, dE (kW kp ops.toList) t = false → e' t = e0 t) → K e' w' → Q .normal a' w') :
  ∀ (f : Nat) (listed : Array Bool) (is : List Nat) (l : List Oper) (W : List Nat) (e ek : Env) (a : Act) (w : World), Down ops listed →
   canon P ops f listed = some is → I9 ops is = some l → xH kp ops W l = true → Cc n kp W e a → (∀ t, dE kp t = true → ek t = e t) →
   (∀ t, dE (kW kp ops.toList) t = false → ek t = e0 t) → e mkS = e0 mkS → ek mkS = e0 mkS →
   Jy P n kp R ops (Qq P ops) T K is l e ek w → ∀ w', Ext w w' → wA ro m P ops T Q f listed a w' := by
 have hsel : ∀ (j : Nat) (o : Oper) cs b, ops[j]? = some o → o.op ≠ .select cs b := fun j o cs b hj =>
  acQ hns o (by simpa using Array.mem_of_getElem? hj) cs b
 have hisSel : ∀ (j : Nat) (o : Oper), ops[j]? = some o → wB o = false := fun j o hj => agX hns o (by simpa using Array.mem_of_getElem? hj)
 have hend : ∀ (W : List Nat) (e ek : Env) (a : Act) (w' : World), Cc n kp W e a → (∀ t, dE kp t = true → ek t = e t) → (∀ t, dE (kW kp ops.toList) t = false → ek t = e0 t) → e mkS = e0 mkS → ek mkS = e0 mkS → K ek w' → Q .normal a w' :=
  fun W e ek a w' hr hk hf hm0 hmk h => hQ ek a w' ⟨by rw [hr.1, hm0, hmk], hr.2.1, fun t ht hm => by
   rcases hm with hm | hm
   ·rw [hr.2.2 t ht (.inl hm), hk t hm]
   ·simp [dE] at hm⟩ hf h
 intro f
 induction f with
 | zero =>
  intro listed is l W e ek a w hdn hc ho hrd hr hk hf hm0 hmk h w' hw'
  simp only [canon] at hc
  split at hc
  ·rename_i hre
   cases hc
   simp only [I9, Option.some.injEq] at ho
   subst ho
   exact ⟨hre, hend W e ek a w' hr hk hf hm0 hmk (h w' hw')⟩
  ·cases hc
 | succ f ih =>
  intro listed is l W e ek a w hdn hc ho hrd hr hk hf hm0 hmk h
  simp only [canon] at hc
  split at hc
  ·-- quiet
   rename_i i hq
   obtain ⟨hmem, o', hoi, hl⟩ := NG hq
   split at hc
   ·rename_i hfree
    split at hc
    ·rename_i is' hc'
     cases hc
     obtain ⟨o2, l', ho1, ho2, rfl⟩ := QA ho
     have hoo : o' = o2 := Option.some.inj (hoi.symm.trans ho1)
     subst hoo
     ·obtain ⟨⟨h1, hdk⟩, h2⟩ := Dv hrd
      have hos : wB o' = false := hisSel i o' hoi
      have hdst : ∀ v t, dE (kW kp ops.toList) t = false → uC kp ek o'.dst v t = e0 t := fun v t ht => by
       rw [NH (by simpa using Array.mem_of_getElem? hoi) ht]; exact hf t ht
      have go : ∀ (T0 : World → World → Prop) v, Moves T0 → (∀ (j : Nat) (oj : Oper) (listed : Array Bool) (w w' : World), Down ops listed → i ∈ Region.ready .any ops listed → j ∈ Region.ready .any ops listed → ops[j]? = some oj → j ≠ i → mv P ops T j w w' → T0 w w') → Yt P ops T0 o' v a w → Jy P n kp R ops (Qq P ops) T K is' l' (put e o'.dst v) (uC kp ek o'.dst v) w → ∀ w', Ext w w' → wA ro m P ops T Q (f + 1) listed a w' := by
       intro T0 v hT0 hm hy hd w' hw'
       refine agW hT hT0 hl hm hoi hsel hdf hlo (fun c a d w => hQp c a d v w) f listed a w' hdn (Region.free_spec hoi hfree) hmem (Yt.later hT0 hy (hT0.ext hw')) fun w3 hw3 => ?_
       exact ih _ is' l' _ _ _ _ w (OU hmem hdn) hc' ho2 h2 (Hf hr o'.dst v hdk) (Jb hk) (hdst v) (by rw [MG hdk, hm0]) (by rw [Jc hdk, hmk]) hd w3 (Ext.trans hw' hw3)
      have hmT : ∀ (j : Nat) (oj : Oper) (listed : Array Bool) (w w' : World), Down ops listed → i ∈ Region.ready .any ops listed → j ∈ Region.ready .any ops listed → ops[j]? = some oj → j ≠ i → mv P ops T j w w' → T w w' :=
       fun j oj listed w w' hd hi hj _ hji h => h.1.resolve_left fun hc => hji (TT hd hi hj hc).symm
      simp only [Jy, hl] at h
      have gmove : ∀ x, o'.guard = none → (o'.op = .move x ∨ o'.op = .assign x) → Yt P ops T o' (ev n e x) a w := fun x hg hop => by
       refine Lt hr h1 hos fun w' _ => ?_
       unfold Lm
       simp only [hg]
       unfold OQ
       rcases hop with hop | hop <;> (rw [hop]; exact ⟨rfl, Ext.refl _⟩)
      split at h
      ·rename_i x hg hop; exact go T _ hT hmT (gmove x hg (.inl hop)) h
      ·rename_i x hg hop; exact go T _ hT hmT (gmove x hg (.inr hop)) h
      ·split at h
       ·rename_i he
        obtain ⟨v, hv, hd⟩ := h
        refine go Ext v aeR (fun j oj listed w w' hd hi hj hoj hji h => ?_) (Lt hr h1 hos hv) hd
        cases hlj : loud P oj with
        | false => exact h.2 oj hoj hlj
        | true =>
         cases hc : RN ops j with
         | true => exact absurd (TT hd hi hj hc).symm hji
         | false => exact (agV he hd hi hj hoj hlj hc).elim
       ·obtain ⟨v, hv, hd⟩ := h
        exact go T v hT hmT (Lt hr h1 hos hv) hd
    ·cases hc
   ·cases hc
  ·-- loud
   rename_i hq
   split at hc
   ·rename_i k hre
    split at hc
    ·rename_i is' hc'
     cases hc
     obtain ⟨o', l', hoi, ho2, rfl⟩ := QA ho
     ·obtain ⟨⟨h1, hdk⟩, h2⟩ := Dv hrd
      have hos : wB o' = false := hisSel k o' hoi
      have hl : loud P o' = true := by
       rw [hre] at hq
       simp only [Ha, hoi] at hq
       cases hl : loud P o' with
       | true => rfl
       | false => simp [hl] at hq
      have hdst : ∀ v t, dE (kW kp ops.toList) t = false → uC kp ek o'.dst v t = e0 t := fun v t ht => by
       rw [NH (by simpa using Array.mem_of_getElem? hoi) ht]; exact hf t ht
      intro w' hw'
      refine ⟨by rw [hre]; simp, fun j hj => ?_⟩
      rw [hre] at hj
      have hjk : j = k := by simpa using hj
      subst hjk
      simp only [Jy, hl] at h
      unfold wpOpIn
      simp only [hoi]
      have fin : ∀ D : Value → World → Prop, (∀ v w'', D v w'' → mv P ops T j w' w'' ∧ Jy P n kp R ops (Qq P ops) T K is' l' (put e o'.dst v) (uC kp ek o'.dst v) w'') → Lm P n R true ops o' e w' D →
        if Region.wanted o' (yielded ops a.tmps) then o'.wpIn (Fw ro) m P a w' (fun a' w'' => mv P ops T j w' w'' ∧ ∀ w3, Ext w'' w3 → wA ro m P ops T Q f (listed.setIfInBounds j true) a' w3) Q
        else (∀ f, o'.about P w' a.eval = some f → (Fw ro).fn f) ∧ mv P ops T j w' w' ∧ ∀ w3, Ext w' w3 → wA ro m P ops T Q f (listed.setIfInBounds j true) (a.put o'.dst undef) w3 := fun D hD hg => by
       have := Gh (ro := ro) (m := m) (next := fun a' w'' => mv P ops T j w' w'' ∧ ∀ w3, Ext w'' w3 → wA ro m P ops T Q f (listed.setIfInBounds j true) a' w3) (Q := Q) hr h1 hos
        (fun v w'' hv => ⟨(hD v w'' hv).1, ih _ is' l' _ _ _ _ w'' (OU (by rw [hre]; exact List.mem_singleton.2 rfl) hdn) hc' ho2 h2 (Hf hr o'.dst v hdk) (Jb hk) (hdst v) (by rw [MG hdk, hm0]) (by rw [Jc hdk, hmk]) (hD v w'' hv).2⟩) (fun c w'' hc => hP c a w'' (by rw [hr.1, hm0]) hc) hg
       split
       ·rename_i hw; rw [if_pos hw] at this; exact this
       ·rename_i hw; rw [if_neg hw] at this; exact this
      split at h
      ·rename_i hcm
       exact fin _ (fun v w'' hv => ⟨⟨.inl hcm, fun o ho hq => by rw [Option.some.inj (ho.symm.trans hoi), hl] at hq; cases hq⟩, hv⟩) (h w' hw')
      ·exact fin _ (fun v w'' hv => ⟨⟨.inr hv.1, fun o ho hq => by rw [Option.some.inj (ho.symm.trans hoi), hl] at hq; cases hq⟩, hv.2⟩) (h w' hw')
    ·cases hc
   ·cases hc
def Qs (n : Nat) (kp ms : List Nat) (R : Ending → World → Prop) (e : Env) (k : Exit → Env → World → Prop) : Exit → Act → World → Prop
 | .panic c, a, w => (∃ v, a.defers = OJ v ∧ (dE ms mkS = false → v = e mkS)) ∧ R (.panicked c) w
 | .outgrown, _, _ => False
 | x, a, w => ∃ e', qE n kp e' a ∧ (∀ t, dE ms t = false → e' t = e t) ∧ k x e' w
theorem agY {ms : List Nat} {e : Env} {k : Exit → Env → World → Prop} (c : List PanicEntry) (a : Act) (d : Option Nat) (v : Value) (w : World) (h : Qs n kp ms R e k (.panic c) (a.put d v) w) : Qs n kp ms R e k (.panic c) a w := by
 obtain ⟨⟨v', h1, h2⟩, h3⟩ := h
 refine ⟨⟨v', ?_, h2⟩, h3⟩
 cases d <;> simpa [Act.put] using h1
theorem anl {ms : List Nat} {e : Env} {k : Exit → Env → World → Prop} : ¬ LetsOut (Qs n kp ms R e k) := by
 rintro ⟨a, w, h⟩
 exact h
theorem Qw {ops : Array Oper} (h : xI ops.toList = true) : ∀ (i : Nat) (o : Oper), ops[i]? = some o → ∀ c, o.op ≠ .defer c := by
 have : ∀ l : List Oper, xI l = true → ∀ o ∈ l, ∀ c, o.op ≠ .defer c := by
  intro l
  induction l with
  | nil => intro _ o ho; cases ho
  | cons x xs ih =>
   intro h o ho
   obtain ⟨h1, h2⟩ := zT h
   rcases List.mem_cons.1 ho with rfl | ho
   ·exact TR h1
   ·exact ih h2 o ho
 intro i o hi
 exact this _ h o (by simpa using Array.mem_of_getElem? hi)
theorem XE {ro : Option Nat} {m : Nat} {id : Nat} {ops : Array Oper} {draw : Bool} {k : Exit → Env → World → Prop} {e : Env} {a : Act} {w : World} (hr : qE n kp e a)
  (h : uY P n kp R ops draw (k .normal) e w) : (Code.region id ops draw).wpIn (Fw ro) m P (Qs n kp (kW kp ops.toList) R e k) a w := by
 unfold uY at h
 cases draw with
 | false =>
  simp only [] at h
  split at h
  ·rename_i h1 h2
   exact wpIn_region_list (TS (e0 := e) ops.toList [] e e a w h1 h2 hr (fun _ _ => rfl) rfl rfl (fun e' a' w' hr' hf hk => ⟨e', hr', hf, hk⟩) (fun c a' w' hd hR => ⟨⟨_, hd, fun _ => rfl⟩, hR⟩) h)
  ·exact h.elim
 | true =>
  simp only [] at h
  split at h
  ·rename_i is hm hc
   split at h
   ·rename_i l hl
    split at h
    ·rename_i h1 h2
     obtain ⟨T, hT, h⟩ := h
     refine wpIn_region_draw fun t => ?_
     simp only [Region.schedule, hm, Bool.true_or, if_true]
     refine wpAnyIn_sound ops.size t _ a _ (Gi (T := T) _ _ _ _ ?_)
     exact TN hT h2 (Qw h2) anl (fun c a d v w => agY c a d v w) e (fun c a' w' hd hR => ⟨⟨_, hd, fun _ => rfl⟩, hR⟩)
      (fun e' a' w' hr' hf hk => ⟨e', hr', hf, hk⟩) _ _ _ _ _ _ _ _ _ (TP _ _) hc hl h1 hr (fun _ _ => rfl) (fun _ _ => rfl) rfl rfl h _ (Ext.refl _)
    ·exact h.elim
   ·exact h.elim
  ·exact h.elim
theorem aeS (x : Nat) (l : List Nat) (t : Nat) : dE (RP x l) t = true ↔ x = t ∨ dE l t = true := by
 unfold RP
 cases hm : dE l x with
 | true => exact ⟨.inr, fun h => h.elim (fun e => e ▸ hm) id⟩
 | false =>
  simp only [dE]
  cases hb : Nat.beq x t with
  | true => exact ⟨fun _ => .inl ((rE _ _).1 hb), fun _ => rfl⟩
  | false => exact ⟨.inr, fun h => h.resolve_left (fun e => by rw [(rE x t).2 e] at hb; cases hb)⟩
theorem QB (a b : List Nat) (t : Nat) : dE (yF a b) t = true ↔ dE a t = true ∨ dE b t = true := by
 induction a with
 | nil => simp [yF, dE]
 | cons x xs ih =>
  simp only [yF, aeS, ih]
  by_cases h : x = t
  ·subst h; simp [dE, (rE x x).2 rfl]
  ·simp [dE, Hl h, h]
theorem o7 {a b : List Nat} {t : Nat} (h : dE (yF a b) t = false) : dE a t = false ∧ dE b t = false := by
 constructor
 ·cases ha : dE a t with
  | false => rfl
  | true => rw [(QB a b t).2 (.inl ha)] at h; cases h
 ·cases hb : dE b t with
  | false => rfl
  | true => rw [(QB a b t).2 (.inr hb)] at h; cases h
theorem Ba {ms : List Nat} {g e : Env} (h : ∀ t, dE ms t = false → g t = e t) : mix ms g e = g := by
 funext t
 unfold mix
 cases hm : dE ms t with
 | true => rfl
 | false => exact (h t hm).symm
theorem aeT {ms ms' : List Nat} {e : Env} {k k' : Exit → Env → World → Prop} {c : List PanicEntry} {a : Act} {w : World} (h : Qs n kp ms R e k (.panic c) a w) (hm : dE ms' mkS = false → dE ms mkS = false) (_ : e = e) :
  Qs n kp ms' R e k' (.panic c) a w := by
 obtain ⟨⟨v, h1, h2⟩, h3⟩ := h
 exact ⟨⟨v, h1, fun ht => h2 (hm ht)⟩, h3⟩
theorem ZG {ms ms' : List Nat} {e e' : Env} {k k' : Exit → Env → World → Prop} {c : List PanicEntry} {a : Act} {w : World} (h : Qs n kp ms R e' k (.panic c) a w) (hm : dE ms' mkS = false → dE ms mkS = false)
  (he : dE ms' mkS = false → e' mkS = e mkS) : Qs n kp ms' R e k' (.panic c) a w := by
 obtain ⟨⟨v, h1, h2⟩, h3⟩ := h
 exact ⟨⟨v, h1, fun ht => by rw [h2 (hm ht), he ht]⟩, h3⟩
theorem TU : ∀ (ps : List Nat) (i : Nat) (xs : List Value) (e : Env) (tm : Array Value) (ds : List Deferred), Xy ps = true → ps.length + i = xs.length → qE n kp e { tmps := tm, defers := ds } →
  qE n kp (Fp i ps xs e) { tmps := (ps.zip (xs.drop i)).foldl (fun t (x : Nat × Value) => t.setIfInBounds x.1 x.2) tm, defers := ds }
 | [], i, xs, e, tm, ds, _, _, h => by simpa [Fp] using h
 | p :: ps, i, xs, e, tm, ds, h, hl, hr => by
  simp only [Xy] at h
  split at h
  ·rename_i hp
   simp only [List.length_cons] at hl
   have hi : i < xs.length := by omega
   have hd : xs.drop i = xs[i] :: xs.drop (i + 1) := List.drop_eq_getElem_cons hi
   simp only [Fp, hd, List.zip_cons_cons, List.foldl_cons]
   refine TU ps (i + 1) xs _ _ ds h (by omega) ?_
   have := Hf hr (some p) (xs[i]) hp
   have e1 : xs.getD i undef = xs[i] := by simp [List.getD, hi]
   rw [e1]
   refine ⟨this.1, this.2.1, fun t ht hm => this.2.2 t ht (hm.imp_right fun hm => by simp [dE] at hm)⟩
  ·cases h
theorem sH (w : World) (l : Nat) (o : Obj) : Jw l w (w.putObj l o) := ⟨o, rfl⟩
theorem acR {w : World} {l : Nat} {o o' : Obj} (h : w.heap[l]? = some o) : (w.putObj l o').heap[l]? = some o' := World.putObj_heap_same (Array.getElem?_eq_some_iff.1 h).1
theorem ZH {k : Exit → Env → World → Prop} {e : Env} : ∀ {is : List Nat} {i : Nat} {f : Nat → World → Prop}, (i, f) ∈ kxs k e is → f = fun D w => k (Qu i) (upd e mkS (mkV D (e mkS))) w
 | [], _, _, h => by simp [kxs] at h
 | j :: js, i, f, h => by
  simp only [kxs, List.mem_cons, Prod.mk.injEq] at h
  rcases h with ⟨rfl, rfl⟩ | h
  ·rfl
  ·exact ZH h
def codeOf : Nat → Code
 | 0 => .ret
 | i + 1 => .exit i
theorem ZI {k : Exit → Env → World → Prop} {e : Env} : ∀ {is : List Nat} {i : Nat} {f : World → Prop}, (i, f) ∈ kxN k e is → f = fun w => k (Qu i) e w
 | [], _, _, h => by simp [kxN] at h
 | j :: js, i, f, h => by
  simp only [kxN, List.mem_cons, Prod.mk.injEq] at h
  rcases h with ⟨rfl, rfl⟩ | h
  ·rfl
  ·exact ZI h
theorem XF {l dd : Nat} {fn : FuncId} {tm : Array Value} {ps : Array Tmp} {asn body : Code} {e : Env} {rec : LoopState → Option Code → Loop}
  (hrec : rec = fun st pe => { state := st, pending := pe, fn, tmps := tm, params := ps, assign := asn, body, defers := dd })
  (iha : ∀ (k : Exit → Env → World → Prop) (e : Env) (a : Act) (w : World), qE n kp e a → sh P n kp (some l) aZ asn k e w → asn.wpIn (Fw (some l)) 0 P (Qs n kp (jK kp asn) aZ e k) a w)
  (ihb : ∀ (k : Exit → Env → World → Prop) (e : Env) (a : Act) (w : World), qE n kp e a → sh P n kp (some l) aZ body k e w → body.wpIn (Fw (some l)) 0 P (Qs n kp (jK kp body) aZ e k) a w)
  (hps : Xy ps.toList = true) (hnm' : n ≤ mkS) (hrs : tm.size = n) (hrt : ∀ t, t < n → dE kp t = true ∨ dE [] t = true → tm.getD t undef = e t) :
  ∀ xs w2 (Q : Bool → World → Prop), xs.length = ps.size → w2.heap[l]? = some (.loop (rec .ready none)) →
     sh P n kp (some l) aZ asn (nrm (fun _ _ _ => False) fun e w' => RH l (.loop (rec .ready none)) (.loop (rec .busy none)) (fun w' => sh P n kp (some l) aZ body (fun x _ w' => OL l (.loop (rec .ready none)) (.loop (rec .busy none)) (fun i => .loop (rec .done (some (codeOf i)))) Q x w') e w') w') (Fp 0 ps.toList xs (upd e mkS undef)) w2 →
     vG P (.func (.yield l) #[] #[]) xs.toArray w2 fun e w' => match e with | .returned (.bool b) => Q b w' | _ => False := by
 intro xs w2 Q hxs hl hs
 have hy := run_yield (P := P) (args := xs.toArray) hl (by rw [hrec]; simpa using hxs)
 rw [hrec] at hy
 refine ⟨rfl, rfl, fn, _, asn, body, hy, ?_⟩
 have hre : qE n kp (Fp 0 ps.toList xs (upd e mkS undef)) { tmps := (ps.zip xs.toArray).foldl (fun tmps (x : Nat × Value) => tmps.setIfInBounds x.1 x.2) tm, defers := [] } := by
  have := TU ps.toList 0 xs (upd e mkS undef) tm [] hps (by simpa using hxs.symm) ⟨by rw [upd_same]; rfl, hrs, fun t ht hm => by
   by_cases htm : t = mkS
   ·omega
   ·rw [upd_ne _ _ htm]; exact hrt t ht hm⟩
  rw [List.drop_zero] at this
  rw [← Array.foldl_toList, Array.toList_zip]
  exact this
 have hin : RoundIn (Fw none) 0 P l fn ((ps.zip xs.toArray).foldl (fun tmps (x : Nat × Value) => tmps.setIfInBounds x.1 x.2) tm) asn body w2 (fun e w' => match e with | .returned (.bool b) => Q b w' | _ => False) := by
  refine roundIn_of_wpIn trivial ?_
  refine wpIn_mono (iha _ _ _ _ hre hs) fun ex a1 w3 hq => ?_
  cases ex with
  | normal =>
   obtain ⟨e1, hr1, _, hmid⟩ := hq
   obtain ⟨hl3, hmid⟩ := hmid
   refine ⟨_, run_beginRound hl3 (by rw [hrec]), ?_⟩
   rw [hrec] at hl3 hmid ⊢
   have hb := hmid _ (sH w3 _ _) (acR hl3)
   refine wpIn_mono (ihb _ _ _ _ hr1 hb) fun ex2 a2 w4 hq2 => ?_
   cases ex2 with
   | normal =>
    obtain ⟨_, _, _, hl4, hfin⟩ := hq2
    exact ⟨_, _, run_endRound none hl4, hfin _ (sH w4 _ _) (acR hl4)⟩
   | ret =>
    obtain ⟨_, _, _, hl4, hfin⟩ := hq2
    exact ⟨_, _, run_endRound (some .ret) hl4, hfin _ (sH w4 _ _) (acR hl4)⟩
   | exit i =>
    obtain ⟨_, _, _, hl4, hfin⟩ := hq2
    exact ⟨_, _, run_endRound (some (.exit i)) hl4, hfin _ (sH w4 _ _) (acR hl4)⟩
   | goto i =>
    obtain ⟨_, _, _, hl4, hfin⟩ := hq2
    exact (hfin _ (sH w4 l (.loop (rec .ready none)))).elim
   | panic c => exact hq2.2.elim
   | outgrown => exact hq2.elim
  | panic c => exact hq.2.elim
  | outgrown => exact hq.elim
  | _ => obtain ⟨_, _, _, hk⟩ := hq; exact hk.elim
 exact ⟨trivial, fun c cs _ => hin.2 c cs (room_wide _)⟩
theorem XG {m : Nat} {g : Operand} {ps : Array Tmp} {asn body : Code} {k : Exit → Env → World → Prop} {e : Env} {a : Act} {w : World} (hr : qE n kp e a)
  (iha : ∀ (l : Nat) (k : Exit → Env → World → Prop) (e : Env) (a : Act) (w : World), qE n kp e a → sh P n kp (some l) aZ asn k e w → asn.wpIn (Fw (some l)) 0 P (Qs n kp (jK kp asn) aZ e k) a w)
  (ihb : ∀ (l : Nat) (k : Exit → Env → World → Prop) (e : Env) (a : Act) (w : World), qE n kp e a → sh P n kp (some l) aZ body k e w → body.wpIn (Fw (some l)) 0 P (Qs n kp (jK kp body) aZ e k) a w)
  (h : sh P n kp none R (.rangeFunc g ps asn body) k e w) : (Code.rangeFunc g ps asn body).wpIn (Fw none) m P (Qs n kp (jK kp (.rangeFunc g ps asn body)) R e k) a w := by
 simp only [sh] at h
 split at h
 ·rename_i hg hc1 hps hnm
  have hnm' : n ≤ mkS := Nat.le_of_ble_eq_true hnm
  have hev : a.eval g = ev n e g := zk hr g fun t ht => by subst ht; exact .inl hg
  unfold wV at h
  split at h
  ·rename_i gf first lb hgv
   obtain ⟨hok, h⟩ := h
   refine wpIn_rangeFunc ?_
   intro fn _
   obtain ⟨rec, hrec⟩ : ∃ rec : LoopState → Option Code → Loop, rec = fun st pe => { state := st, pending := pe, fn, tmps := a.tmps, params := ps, assign := asn, body, defers := w.heap.size } := ⟨_, rfl⟩
   obtain ⟨W1, hW1⟩ : ∃ W1, (w.alloc (.deferred (some []))).alloc (.loop (rec .ready none)) = W1 := ⟨_, rfl⟩
   have hL1 : W1.heap[w.heap.size + 1]? = some (.loop (rec .ready none)) := by
    rw [← hW1]; have := World.alloc_heap_new (w.alloc (.deferred (some []))) (.loop (rec .ready none)); rwa [World.size_alloc] at this
   have hK1 : W1.heap[w.heap.size]? = some (.deferred (some [])) := by
    rw [← hW1]; exact (RowKit.Below.heap_alloc _ _ _ (by simp)).trans (World.alloc_heap_new w _)
   have hb1 : RowKit.Below w.heap.size w W1 := by
    rw [← hW1]; exact (((RowKit.Below.refl _ w).alloc (Nat.le_refl _) _).alloc (by simp) _)
   have hsz : W1.heap.size = w.heap.size + 2 := by rw [← hW1]; simp
   have eg : ∀ args w', (callFunc gf args).run P w' = .ok (.enter gf args) w' := by
    intro args w'
    cases hf : P.funcs[gf]? with
    | none => simp [hf] at hok
    | some fn =>
     simp only [hf, Option.any_some, Bool.and_eq_true, Bool.not_eq_true'] at hok
     have h1 : ¬ fn.body = none := by intro hb; simp [hb] at hok
     have h2 : ¬ fn.name = "runtime.NumGoroutine" := by intro hb; simp [hb] at hok
     simp [callFunc, program, Sem.run_bind, Sem.run, Result.andThen, hf, h2, h1]
   have hround := XF (l := w.heap.size + 1) hrec (iha _) (ihb _) hps hnm' hr.2.1 hr.2.2
   have hcall := h W1 (w.heap.size + 1) w.heap.size (.loop (rec .ready none)) (.loop (rec .busy none)) (fun i => .loop (rec .done (some (codeOf i)))) (.func (.yield (w.heap.size + 1)) #[] #[]) rfl rfl hb1 hsz hK1 hL1 rfl rfl (fun _ => rfl) hround
   refine ⟨w.heap.size + 1, [{ target := .collected w.heap.size, args := #[] }], W1, { target := .fn (.func gf) lb, args := first ++ #[.func (.yield (w.heap.size + 1)) #[] #[]] }, W1, gf,
    first ++ #[.func (.yield (w.heap.size + 1)) #[] #[]] ++ lb, W1, ?_, ?_, fun _ _ => trivial, ?_, (fun h => by simp [Fence.wide] at h), ?_⟩
   ·rw [← hW1, hrec]; exact run_enterLoop_outer _ _ _ _ _
   ·simp only [resolve, hev, hgv]
    simp [go_sem]
   ·simp [invoke, go_sem, eg]
   ·refine Dw.2 (Calls.mono hcall fun en W2 hen => ?_)
    obtain ⟨⟨v, rfl⟩, hen⟩ := hen
    have hrel : qE n kp (upd e mkS (mkV w.heap.size (e mkS))) { a with defers := [{ target := .collected w.heap.size, args := #[] }] ++ a.defers } := by
     refine ⟨?_, hr.2.1, fun t ht hm => ?_⟩
     ·rw [upd_same]; simp [OJ, Zx, hr.1]
     ·by_cases htm : t = mkS
      ·omega
      ·rw [upd_ne _ _ htm]; exact hr.2.2 t ht hm
    have hfr : ∀ t, dE (jK kp (.rangeFunc g ps asn body)) t = false → upd e mkS (mkV w.heap.size (e mkS)) t = e t := by
     intro t ht
     refine upd_ne _ _ fun he => ?_
     subst he
     simp [jK, dE, (rE mkS mkS).2 rfl] at ht
    have hpe : ∀ st pe, (rec st pe).pending = pe := by rw [hrec]; intros; rfl
    rcases hen with ⟨hl, hk⟩ | ⟨i, f, hmem, hl, hk⟩
    ·have he := run_endLoop (P := P) hl (by rw [hrec]; simp)
     rw [hpe] at he
     exact ⟨none, _, he, _, hrel, hfr, hk _ (sH W2 _ _)⟩
    ·have hf := ZH hmem
     subst hf
     have he := run_endLoop (P := P) hl (by rw [hrec]; simp)
     rw [hpe] at he
     refine ⟨some (codeOf i), _, he, ?_⟩
     cases i with
     | zero => exact wpIn_ret ⟨_, hrel, hfr, hk _ (sH W2 _ _)⟩
     | succ i => exact wpIn_exit ⟨_, hrel, hfr, hk _ (sH W2 _ _)⟩
  ·exact h.elim
 ·exact h.elim
theorem XH {w : World} {l₀ : Nat} {r₀ : Loop} (h : w.heap[l₀]? = some (.loop r₀)) (fn : FuncId) (tmps : Array Value) (ps : Array Tmp) (assign body : Code) :
  (Instr.enterLoop fn tmps ps assign body (some l₀)).run P w = .ok (w.heap.size, []) (w.alloc (.loop { state := .ready, pending := none, fn, tmps, params := ps, assign, body, defers := r₀.defers })) := by
 unfold Instr.enterLoop
 simp only [Sem.run_bind, run_getLoop h, run_newObj_alloc, Result.andThen, Sem.run_pure]
theorem XI {m l0 : Nat} {g : Operand} {ps : Array Tmp} {asn body : Code} {k : Exit → Env → World → Prop} {e : Env} {a : Act} {w : World} (hr : qE n kp e a)
  (iha : ∀ (l : Nat) (k : Exit → Env → World → Prop) (e : Env) (a : Act) (w : World), qE n kp e a → sh P n kp (some l) aZ asn k e w → asn.wpIn (Fw (some l)) 0 P (Qs n kp (jK kp asn) aZ e k) a w)
  (ihb : ∀ (l : Nat) (k : Exit → Env → World → Prop) (e : Env) (a : Act) (w : World), qE n kp e a → sh P n kp (some l) aZ body k e w → body.wpIn (Fw (some l)) 0 P (Qs n kp (jK kp body) aZ e k) a w)
  (h : sh P n kp (some l0) R (.rangeFunc g ps asn body) k e w) : (Code.rangeFunc g ps asn body).wpIn (Fw (some l0)) m P (Qs n kp (jK kp (.rangeFunc g ps asn body)) R e k) a w := by
 simp only [sh] at h
 split at h
 ·rename_i hg hc1 hps hnm
  have hnm' : n ≤ mkS := Nat.le_of_ble_eq_true hnm
  have hev : a.eval g = ev n e g := zk hr g fun t ht => by subst ht; exact .inl hg
  unfold PL at h
  split at h
  ·rename_i gf first lb hgv
   obtain ⟨hok, ⟨r0, hl0⟩, h⟩ := h
   refine wpIn_rangeFunc ?_
   intro fn _
   obtain ⟨rec, hrec⟩ : ∃ rec : LoopState → Option Code → Loop, rec = fun st pe => { state := st, pending := pe, fn, tmps := a.tmps, params := ps, assign := asn, body, defers := r0.defers } := ⟨_, rfl⟩
   obtain ⟨W1, hW1⟩ : ∃ W1, w.alloc (.loop (rec .ready none)) = W1 := ⟨_, rfl⟩
   have hL1 : W1.heap[w.heap.size]? = some (.loop (rec .ready none)) := by rw [← hW1]; exact World.alloc_heap_new w _
   have hb1 : RowKit.Below w.heap.size w W1 := by
    rw [← hW1]; exact (RowKit.Below.refl _ w).alloc (Nat.le_refl _) _
   have hsz : W1.heap.size = w.heap.size + 1 := by rw [← hW1]; simp
   have eg : ∀ args w', (callFunc gf args).run P w' = .ok (.enter gf args) w' := by
    intro args w'
    cases hf : P.funcs[gf]? with
    | none => simp [hf] at hok
    | some fn =>
     simp only [hf, Option.any_some, Bool.and_eq_true, Bool.not_eq_true'] at hok
     have h1 : ¬ fn.body = none := by intro hb; simp [hb] at hok
     have h2 : ¬ fn.name = "runtime.NumGoroutine" := by intro hb; simp [hb] at hok
     simp [callFunc, program, Sem.run_bind, Sem.run, Result.andThen, hf, h2, h1]
   have hround := XF (l := w.heap.size) hrec (iha _) (ihb _) hps hnm' hr.2.1 hr.2.2
   have hcall := h W1 w.heap.size (.loop (rec .ready none)) (.loop (rec .busy none)) (fun i => .loop (rec .done (some (codeOf i)))) (.func (.yield w.heap.size) #[] #[]) rfl hb1 hsz hL1 rfl rfl (fun _ => rfl) hround
   refine ⟨w.heap.size, [], W1, { target := .fn (.func gf) lb, args := first ++ #[.func (.yield w.heap.size) #[] #[]] }, W1, gf,
    first ++ #[.func (.yield w.heap.size) #[] #[]] ++ lb, W1, ?_, ?_, fun _ _ => trivial, ?_, (fun h => by simp [Fence.wide] at h), ?_⟩
   ·rw [← hW1, hrec]; exact XH hl0 _ _ _ _ _
   ·simp only [resolve, hev, hgv]
    simp [go_sem]
   ·simp [invoke, go_sem, eg]
   ·refine Dw.2 (Calls.mono hcall fun en W2 hen => ?_)
    obtain ⟨⟨v, rfl⟩, hen⟩ := hen
    have hpe : ∀ st pe, (rec st pe).pending = pe := by rw [hrec]; intros; rfl
    rcases hen with ⟨hl, hk⟩ | ⟨i, f, hmem, hl, hk⟩
    ·have he := run_endLoop (P := P) hl (by rw [hrec]; simp)
     rw [hpe] at he
     exact ⟨none, _, he, e, hr, fun _ _ => rfl, hk _ (sH W2 _ _)⟩
    ·have hf := ZI hmem
     subst hf
     have he := run_endLoop (P := P) hl (by rw [hrec]; simp)
     rw [hpe] at he
     refine ⟨some (codeOf i), _, he, ?_⟩
     cases i with
     | zero => exact wpIn_ret ⟨e, hr, fun _ _ => rfl, hk _ (sH W2 _ _)⟩
     | succ i => exact wpIn_exit ⟨e, hr, fun _ _ => rfl, hk _ (sH W2 _ _)⟩
  ·exact h.elim
 ·exact h.elim
theorem anm : ∀ (c : Code) (ro : Option Nat) (m : Nat) (R : Ending → World → Prop) (k : Exit → Env → World → Prop) (e : Env) (a : Act) (w : World), qE n kp e a → sh P n kp ro R c k e w → c.wpIn (Fw ro) m P (Qs n kp (jK kp c) R e k) a w := by
 intro c
 induction c with
 | skip => exact fun ro m R k e a w hr h => wpIn_skip ⟨e, hr, fun _ _ => rfl, h⟩
 | ret => exact fun ro m R k e a w hr h => wpIn_ret ⟨e, hr, fun _ _ => rfl, h⟩
 | exit id => exact fun ro m R k e a w hr h => wpIn_exit ⟨e, hr, fun _ _ => rfl, h⟩
 | region id ops draw => exact fun ro m R k e a w hr h => XE hr h
 | seq x y ihx ihy =>
  intro ro m R k e a w hr h
  have key : ∀ k', sh P n kp ro R x (nrm k k') e w → (∀ e' a' w', qE n kp e' a' → (∀ t, dE (jK kp x) t = false → e' t = e t) → k' e' w' → sh P n kp ro R y k e' w') →
    (Code.seq x y).wpIn (Fw ro) m P (Qs n kp (jK kp (.seq x y)) R e k) a w := by
   intro k' h' hk'
   refine wpIn_seq (wpIn_mono (ihx _ _ _ _ _ _ _ hr h') fun ex a' w' hq => ?_)
   cases ex with
   | normal =>
    obtain ⟨e', hr', hf, hk⟩ := hq
    refine wpIn_mono (ihy _ _ _ _ _ _ _ hr' (hk' e' a' w' hr' hf hk)) fun ex2 a2 w2 hq2 => ?_
    cases ex2 with
    | panic c => exact ZG (k' := k) hq2 (fun ht => (o7 ht).2) (fun ht => hf _ (o7 ht).1)
    | outgrown => exact hq2
    | _ =>
     obtain ⟨e2, hr2, hf2, hk2⟩ := hq2
     exact ⟨e2, hr2, fun t ht => by obtain ⟨h1, h2⟩ := o7 ht; rw [hf2 t h2, hf t h1], hk2⟩
   | panic c => exact aeT (k' := k) hq (fun ht => (o7 ht).1) rfl
   | outgrown => exact hq
   | _ =>
    obtain ⟨e', hr', hf, hk⟩ := hq
    exact ⟨e', hr', fun t ht => hf t (o7 ht).1, hk⟩
  simp only [sh] at h
  split at h
  ·exact key _ h fun e' a' w' _ _ hk => hk
  ·refine key _ h fun e' a' w' _ hf hk => ?_
   have hk' : sh P n kp ro R y k (mix (jK kp x) e' e) w' := hk
   rw [Ba hf] at hk'
   exact hk'
 | cond c x y ihx ihy =>
  intro ro m R k e a w hr h
  simp only [sh] at h
  split at h
  ·rename_i hin
   have hev : a.eval c = ev n e c := zk hr c fun t ht => by subst ht; exact .inl hin
   unfold cond at h
   have hmono : ∀ (z : Code), (∀ t, dE (yF (jK kp x) (jK kp y)) t = false → dE (jK kp z) t = false) → z.wpIn (Fw ro) m P (Qs n kp (jK kp z) R e k) a w → z.wpIn (Fw ro) m P (Qs n kp (jK kp (.cond c x y)) R e k) a w := fun z hz hw =>
    wpIn_mono hw fun ex a' w' hq => by
     cases ex with
     | panic c => exact aeT (k' := k) hq (fun ht => hz _ ht) rfl
     | outgrown => exact hq
     | _ => obtain ⟨e', hr', hf, hk⟩ := hq; exact ⟨e', hr', fun t ht => hf t (hz t ht), hk⟩
   split at h
   ·rename_i hb
    exact wpIn_cond_true (hev.trans hb) (hmono x (fun t ht => (o7 ht).1) (ihx _ _ _ _ _ _ _ hr h))
   ·rename_i hb
    exact wpIn_cond_false (hev.trans hb) (hmono y (fun t ht => (o7 ht).2) (ihy _ _ _ _ _ _ _ hr h))
   ·exact h.elim
  ·exact h.elim
 | block id c ih =>
  intro ro m R k e a w hr h
  refine wpIn_block (wpIn_mono (ih _ _ _ _ _ _ _ hr h) fun ex a' w' hq => ?_)
  cases ex with
  | exit i =>
   obtain ⟨e', hr', hf, hk⟩ := hq
   simp only [Exit.inBlock]
   by_cases hi : i = id
   ·subst hi
    simp only [blk, (rE i i).2 rfl] at hk
    simp only [if_true]
    exact ⟨e', hr', hf, hk⟩
   ·simp only [blk, Hl hi] at hk
    simp only [hi, if_false]
    exact ⟨e', hr', hf, hk⟩
  | panic c => exact hq
  | outgrown => exact hq
  | _ => exact hq
 | loop c ih =>
  intro ro m R k e a w hr h
  obtain ⟨I, μ, h0, hround⟩ := h
  have hself : mix (jK kp c) e e = e := Ba fun _ _ => rfl
  refine wpIn_loop_ghost (fun m a w => ∃ g, qE n kp (mix (jK kp c) g e) a ∧ I g w ∧ μ g w = m) (μ e w) ⟨e, by rw [hself]; exact hr, h0, rfl⟩ ?_
  rintro m a w ⟨g, hr, hI, rfl⟩
  have hmix : ∀ t, dE (jK kp c) t = false → mix (jK kp c) g e t = e t := fun t ht => by unfold mix; rw [ht]
  refine wpIn_mono (ih _ _ _ _ _ _ _ hr (hround g w hI)) fun ex a' w' hq => ?_
  cases ex with
  | normal =>
   obtain ⟨e', hr', hf, hI', hlt⟩ := hq
   refine ⟨_, hlt, e', ?_, hI', rfl⟩
   rw [Ba fun t ht => by rw [hf t ht, hmix t ht]]
   exact hr'
  | panic c => exact ZG (k' := k) hq id (fun ht => hmix _ ht)
  | outgrown => exact hq
  | _ =>
   obtain ⟨e', hr', hf, hk⟩ := hq
   exact ⟨e', hr', fun t ht => by rw [hf t ht, hmix t ht], hk⟩
 | rangeFunc g ps asn body iha ihb =>
  intro ro m R k e a w hr h
  cases ro with
  | none => exact XG hr (fun l k => iha (some l) 0 aZ k) (fun l k => ihb (some l) 0 aZ k) h
  | some l0 => exact XI hr (fun l k => iha (some l) 0 aZ k) (fun l k => ihb (some l) 0 aZ k) h
 | _ => exact fun ro m R k e a w hr h => h.elim
theorem Ep {m : Nat} (c : Code) (k : Exit → Env → World → Prop) (e : Env) (a : Act) (w : World) (hr : qE n kp e a) (h : sh P n kp none R c k e w) : c.wpIn (Fw none) m P (Qs n kp (jK kp c) R e k) a w := anm c none m R k e a w hr h
theorem MN (l : List Value) (m t : Nat) : (l.toArray ++ Array.replicate m undef).getD t undef = ini l t := by
 have h1 : ∀ (l : List Value) t, (l ++ List.replicate m undef)[t]?.getD undef = ini l t := by
  intro l
  induction l with
  | nil =>
   intro t
   simp only [List.nil_append, ini]
   by_cases h : t < m
   ·simp [h]
   ·simp [List.getElem?_eq_none (l := List.replicate m undef) (by simpa using h)]
  | cons v vs ih =>
   intro t
   cases t with
   | zero => simp [ini]
   | succ t => simpa [ini] using ih t
 have h2 : (l.toArray ++ Array.replicate m undef) = (l ++ List.replicate m undef).toArray := by simp
 rw [h2, Array.getD_eq_getD_getElem?, List.getElem?_toArray]
 exact h1 l t
def resV (a : Act) : ResultVar → Sem Value
 | .tmp t => pure (a.tmps.getD t undef)
 | .cell c t => do loadVar t (← asAddr (a.tmps.getD c undef))
theorem Qo (fn : Func) (a : Act) : results fn a.tmps = (do
  let vs ← List.toArray <$> fn.results.toList.mapM (resV a)
  pure (if h : vs.size = 1 then vs[0] else .tuple vs)) := by
 unfold results
 rw [Array.mapM_eq_mapM_toList]
 congr 3
theorem aeU {t : TypeId} {x v : Value} {w w' : World} (h : (Instr.loadAt t x).run P w = .ok v w') : (do loadVar t (← asAddr x) : Sem Value).run P w = .ok v w' := by
 unfold Instr.loadAt at h
 cases x with
 | pointer p =>
  cases p with
  | none => simp [Instr.sureAddr, stuck, Sem.run_bind, Sem.run, Result.andThen] at h
  | some p => exact h
 | _ => simp [Instr.sureAddr, stuck, Sem.run_bind, Sem.run, Result.andThen] at h
theorem Dq {e : Env} {a : Act} {w : World} (hr : qE n kp e a) : ∀ (rs : List ResultVar) (K : List Value → Prop), I8 kp rs = true → Eo P n e w rs K →
  ∃ vs, (rs.mapM (resV a)).run P w = .ok vs w ∧ K vs
 | [], K, _, h => ⟨[], rfl, h⟩
 | .tmp t :: rs, K, hin, h => by
  simp only [I8] at hin
  split at hin
  ·rename_i hk
   obtain ⟨vs, h1, h2⟩ := Dq hr rs _ hin h
   have hev := zk hr (.tmp t) (fun t' h => by cases h; exact .inl hk)
   simp only [Act.eval, ev] at hev
   refine ⟨rd n e t :: vs, ?_, h2⟩
   rw [List.mapM_cons]
   simp only [resV, Sem.run_bind, h1, Sem.run_pure, Result.andThen, hev]
  ·cases hin
 | .cell c t :: rs, K, hin, h => by
  simp only [I8] at hin
  split at hin
  ·rename_i hk
   have hev := zk hr (.tmp c) (fun t' h => by cases h; exact .inl hk)
   simp only [Act.eval, ev] at hev
   simp only [Eo] at h
   unfold jo at h
   split at h
   ·rename_i v w' hrun
    obtain ⟨rfl, h⟩ := h
    obtain ⟨vs, h1, h2⟩ := Dq hr rs _ hin h
    have h3 := aeU hrun
    refine ⟨v :: vs, ?_, h2⟩
    rw [List.mapM_cons]
    rw [← hev] at h3
    have h4 : (resV a (.cell c t)).run P w' = .ok v w' := h3
    rw [Sem.run_bind, h4]
    simp only [Result.andThen, Sem.run_bind, h1, Sem.run_pure]
   ·exact h.elim
  ·cases hin
theorem TV : ∀ (l : List Value) (t : Nat), l.length ≤ t → ini l t = undef
 | [], _, _ => rfl
 | v :: vs, 0, h => by simp at h
 | v :: vs, t + 1, h => TV vs t (by simpa using h)
theorem Ez {m : Nat} {fn : Func} {tmps : Array Value} : ∀ (Ds : List Nat) (w : World), mG Ds w (fun w => ∃ v, (results fn tmps).run P w = .ok v w ∧ R (.returned v) w) →
  LeavesInM (Fw none) m P fn tmps R (Ds.map fun D => { target := .collected D, args := #[] }) .returning w
 | [], w, h => h
 | D :: Ds, w, h => by
  obtain ⟨hD, h⟩ := h
  exact ⟨by simp, .inl ⟨D, _, rfl, run_takeDeferred hD, Ez Ds _ (h _ (sH w D _))⟩⟩
theorem Gm {K K' : World → Prop} (hk : ∀ w, K w → K' w) : ∀ (Ds : List Nat) (w : World), mG Ds w K → mG Ds w K'
 | [], w, h => hk w h
 | D :: Ds, w, h => ⟨h.1, fun w' hw => Gm hk Ds w' (h.2 w' hw)⟩
theorem aeV {f : FuncId} {args : List Value} {w : World} (h : shF P f kp args R w) : Calls P f args.toArray w R := by
 unfold shF at h
 split at h
 ·rename_i fn hf
  split at h
  ·rename_i c hb
   split at h
   ·rename_i hin hle hnm
    have hle' : args.length ≤ fn.ntmps := Nat.le_of_ble_eq_true hle
    have hnm' : fn.ntmps ≤ mkS := Nat.le_of_ble_eq_true hnm
    have hini : ini args mkS = undef := TV args mkS (by omega)
    have hrel : qE fn.ntmps kp (ini args) { tmps := args.toArray ++ Array.replicate (fn.ntmps - args.toArray.size) undef, defers := [] } :=
     ⟨by rw [hini]; rfl, by simp; omega, fun t _ _ => MN args _ t⟩
    have fin : ∀ (e' : Env) (a' : Act) (w' : World), qE fn.ntmps kp e' a' → Eo P fn.ntmps e' w' fn.results.toList (RG R w') → ∃ v, (results fn a'.tmps).run P w' = .ok v w' ∧ R (.returned v) w' := by
     intro e' a' w' hr' hk
     obtain ⟨vs, h1, h2⟩ := Dq hr' _ _ hin hk
     refine ⟨if h : vs.toArray.size = 1 then vs.toArray[0] else .tuple vs.toArray, ?_, ?_⟩
     ·rw [Qo]
      have h3 : (List.toArray <$> fn.results.toList.mapM (resV a') : Sem (Array Value)).run P w' = .ok vs.toArray w' := by
       rw [map_eq_pure_bind, Sem.run_bind, h1]; rfl
      rw [Sem.run_bind, h3]; rfl
     ·cases vs with
      | nil => exact h2
      | cons v vs => cases vs with
       | nil => exact h2
       | cons v2 vs => exact h2
    split at h
    ·rename_i hmem
     refine calls_of_wp hf hb ((wpIn_wide (n := 0)).1 ?_)
     refine wpIn_mono (Ep (m := 0) c _ _ _ _ hrel h) fun ex a' w' hq => ?_
     cases ex with
     | normal => obtain ⟨e', hr', hfr, hk⟩ := hq; exact ⟨by rw [hr'.1, hfr mkS hmem, hini]; rfl, fin e' a' w' hr' hk⟩
     | ret => obtain ⟨e', hr', hfr, hk⟩ := hq; exact ⟨by rw [hr'.1, hfr mkS hmem, hini]; rfl, fin e' a' w' hr' hk⟩
     | panic c => obtain ⟨⟨v, h1, h2⟩, h3⟩ := hq; exact ⟨by rw [h1, h2 hmem, hini]; rfl, h3⟩
     | outgrown => exact hq.elim
     | exit i => obtain ⟨e', hr', _, hk⟩ := hq; exact hk.elim
     | goto l => obtain ⟨e', hr', _, hk⟩ := hq; exact hk.elim
    ·refine (Dw (ro := none) (m := 0)).1 (callsIn_of_wp_marks hf hb trivial ?_ rfl)
     refine wpIn_mono (Ep (m := 0) c _ _ _ _ hrel h) fun ex a' w' hq => ?_
     cases ex with
     | normal => obtain ⟨e', hr', _, hk⟩ := hq; simp only [bodyPostM]; rw [hr'.1]; exact Ez _ _ (Gm (fun w hw => fin e' a' w hr' hw) _ _ hk)
     | ret => obtain ⟨e', hr', _, hk⟩ := hq; simp only [bodyPostM]; rw [hr'.1]; exact Ez _ _ (Gm (fun w hw => fin e' a' w hr' hw) _ _ hk)
     | panic c => exact hq.2.elim
     | outgrown => exact hq.elim
     | exit i => obtain ⟨e', hr', _, hk⟩ := hq; exact hk.elim
     | goto l => obtain ⟨e', hr', _, hk⟩ := hq; exact hk.elim
   ·exact h.elim
  ·exact h.elim
 ·exact h.elim
end Go.Sh
end
section
namespace Go.Sh
open Go
variable {P : Program} {R : Ending → World → Prop} {K : Value → World → Prop} {w : World}
structure Fr (S : Nat → Prop) (B : Nat) (w w' : World) : Prop where
 os : w'.os = w.os
 tape : w'.tape = w.tape
 output : w'.output = w.output
 size : w.heap.size ≤ w'.heap.size
 block : ∀ k, k < B → ¬ S k → w'.heap[k]? = w.heap[k]?
def no : Nat → Prop := fun _ => False
abbrev aB (S : Nat → Prop) (w w' : World) : Prop := Fr S w.heap.size w w'
theorem Fr.refl (S : Nat → Prop) (B : Nat) (w : World) : Fr S B w w := ⟨rfl, rfl, rfl, Nat.le_refl _, fun _ _ _ => rfl⟩
theorem Fr.trans {S : Nat → Prop} {B : Nat} {a b c : World} (h : Fr S B a b) (k : Fr S B b c) : Fr S B a c :=
 ⟨k.os.trans h.os, k.tape.trans h.tape, k.output.trans h.output, Nat.le_trans h.size k.size, fun i hi hs => (k.block i hi hs).trans (h.block i hi hs)⟩
theorem Fr.step {S S' : Nat → Prop} {B : Nat} {a b c : World} (h : Fr S B a b) (k : aB S' b c) (hB : B ≤ b.heap.size) (hS : ∀ i, i < B → S' i → S i) : Fr S B a c :=
 ⟨k.os.trans h.os, k.tape.trans h.tape, k.output.trans h.output, Nat.le_trans h.size k.size,
  fun i hi hs => (k.block i (by omega) (fun h' => hs (hS i hi h'))).trans (h.block i hi hs)⟩
theorem Fr.mono {S S' : Nat → Prop} {B B' : Nat} {a b : World} (h : Fr S B a b) (hB : B' ≤ B) (hS : ∀ i, i < B' → S i → S' i) : Fr S' B' a b :=
 ⟨h.os, h.tape, h.output, h.size, fun i hi hs => h.block i (by omega) (fun h' => hs (hS i hi h'))⟩
theorem Fr.go {S S' : Nat → Prop} {a b c : World} (h : aB S a b) (k : aB S' b c) (hS : ∀ i, i < a.heap.size → S' i → S i) : aB S a c := h.step k h.size hS
theorem Fr.go0 {S : Nat → Prop} {a b c : World} (h : aB S a b) (k : aB no b c) : aB S a c := h.step k h.size (fun _ _ h => h.elim)
theorem Fr.go1 {S : Nat → Prop} {a b c : World} {g : Nat} (h : aB S a b) (k : aB (· = g) b c) (hg : a.heap.size ≤ g) : aB S a c := h.step k h.size (fun i hi h => by have : i = g := h; omega)
theorem Fr.below {B : Nat} {a b : World} (h : Fr no B a b) : RowKit.Below B a b := ⟨h.os, h.tape, h.output, h.size, fun k hk => h.block k hk id⟩
theorem Fr.of_below {B : Nat} {a b : World} (h : RowKit.Below B a b) : Fr no B a b := ⟨h.os, h.tape, h.output, h.size, fun k hk _ => h.block k hk⟩
theorem Fr.jq {S : Nat → Prop} {a b : World} (h : Ext a b) : aB S a b := ⟨h.os, h.tape, h.output, h.size, fun k hk _ => h.block k hk⟩
theorem aj {w : World} {b : Nat} {o : Obj} (h : w.heap[b]? = some o) : b < w.heap.size := (Array.getElem?_eq_some_iff.1 h).1
theorem Fr.get {S : Nat → Prop} {w w' : World} {b : Nat} {o : Obj} (h : aB S w w') (hb : w.heap[b]? = some o) (hn : ¬ S b) : w'.heap[b]? = some o :=
 (h.block b (aj hb) hn).trans hb
theorem Fr.af {w w' : World} {b : Nat} {o : Obj} (h : aB no w w') (hb : w.heap[b]? = some o) : w'.heap[b]? = some o := h.get hb id
theorem Fr.au {w w' : World} {b g : Nat} {o : Obj} (h : aB (· = g) w w') (hb : w.heap[b]? = some o) (hn : b ≠ g) : w'.heap[b]? = some o := h.get hb hn
theorem Fr.cell {S : Nat → Prop} {w w' : World} {a : Addr} {v : Value} (h : aB S w w') (hc : w.cell? a = some v) (hn : ¬ S a.block) : w'.cell? a = some v := by
 have hlt : a.block < w.heap.size := World.block_lt_of_cell? w a hc
 rw [World.cell?_of_block (h.block _ hlt hn)]; exact hc
theorem aB.drawn (w : World) : aB no w { w with drawn := w.drawn + 1 } := ⟨rfl, rfl, rfl, Nat.le_refl _, fun _ _ _ => rfl⟩
theorem cell_of {w : World} {b o : Nat} {cs : Array Value} {T : TypeId} {fr : Nat × Nat} (hb : w.heap[b]? = some (.cells cs T fr)) : w.cell? ⟨b, o, none⟩ = cs[o]? := by
 simp [World.cell?, hb]
theorem ana (v : Value) (w : World) : bi (.ok v w) R K = K v w := rfl
theorem anb (u : Unit) (w : World) : uw (.ok u w) R K = K undef w := rfl
theorem aoX (op : (Value → World → Prop) → Prop) : gd (.bool true) true op w K = op K := rfl
theorem aoY (op : (Value → World → Prop) → Prop) : gd (.bool false) false op w K = op K := rfl
theorem aoZ (op : (Value → World → Prop) → Prop) : gd (.bool true) false op w K = K undef w := rfl
theorem ao0 (op : (Value → World → Prop) → Prop) : gd (.bool false) true op w K = K undef w := rfl
theorem ao1 (want : Bool) (op : (Value → World → Prop) → Prop) : gd undef want op w K = K undef w := rfl
theorem anc (a b : Value) : pick (.bool true) a b w K = K a w := rfl
theorem ane (a b : Value) : pick (.bool false) a b w K = K b w := rfl
theorem acN (a : Addr) : df (.pointer (some a)) w K = K (.pointer (some a)) w := rfl
theorem anf (A B : Prop) : cond (.bool true) A B = A := rfl
theorem ang (A B : Prop) : cond (.bool false) A B = B := rfl
theorem kL {b : Bool} {A B : Prop} (h1 : b = true → A) (h2 : b = false → B) : cond (.bool b) A B := by cases b; exact h2 rfl; exact h1 rfl
theorem lss (t : TypeId) (k : IntKind) (x y : Int) : (binOp .lss t (.int k x) (.int k y)).run P w = .ok (.bool (decide (x < y))) w := by simp [go_sem]
theorem leq (t : TypeId) (k : IntKind) (x y : Int) : (binOp .leq t (.int k x) (.int k y)).run P w = .ok (.bool (decide (x ≤ y))) w := by simp [go_sem]
theorem gtr (t : TypeId) (k : IntKind) (x y : Int) : (binOp .gtr t (.int k x) (.int k y)).run P w = .ok (.bool (decide (y < x))) w := by simp [go_sem]
theorem geq (t : TypeId) (k : IntKind) (x y : Int) : (binOp .geq t (.int k x) (.int k y)).run P w = .ok (.bool (decide (y ≤ x))) w := by simp [go_sem]
theorem dh (c : Bool) (t : TypeId) (k : IntKind) (x y : Int) : (qI c .eql t (.int k x) (.int k y)).run P w = .ok (.bool (decide (x = y))) w := by
 cases c <;> simp [qI, go_sem] <;> rfl
theorem jO (c : Bool) (t : TypeId) (k : IntKind) (x y : Int) : (qI c .neq t (.int k x) (.int k y)).run P w = .ok (.bool (decide (x ≠ y))) w := by
 cases c <;> simp [qI, go_sem] <;> (by_cases h : x = y <;> simp [h])
theorem neB (c : Bool) (t : TypeId) (ht : P.underlying t = some .bool) (x y : Bool) : (qI c .neq t (.bool x) (.bool y)).run P w = .ok (.bool (decide (x ≠ y))) w := by
 have h := run_neq_bool (P := P) (w := w) t x y ht
 cases c <;> simp [qI, go_sem, h] <;> cases x <;> cases y <;> rfl
theorem KR (x y : ByteArray) : x = y ↔ x.data.toList = y.data.toList := by
 constructor
 ·rintro rfl; rfl
 ·intro h; cases x; cases y; simp_all
theorem bytes_beq (x y : ByteArray) : (x.toList == y.toList) = decide (x = y) := by
 rw [Go.ByteArray.toList_eq, Go.ByteArray.toList_eq]
 by_cases h : x = y
 ·subst h; simp
 ·have : ¬ x.data.toList = y.data.toList := fun e => h ((KR x y).2 e)
  simp only [h, decide_false]
  exact beq_eq_false_iff_ne.2 this
theorem eqS (c : Bool) (t : TypeId) (x y : ByteArray) : (qI c .eql t (.string x) (.string y)).run P w = .ok (.bool (decide (x = y))) w := by
 cases c <;> simp [qI, go_sem, bytes_beq]
theorem neS (c : Bool) (t : TypeId) (x y : ByteArray) : (qI c .neq t (.string x) (.string y)).run P w = .ok (.bool (decide (x ≠ y))) w := by
 cases c <;> simp [qI, go_sem, bytes_beq]
theorem Kr (t : TypeId) (k : IntKind) (x y : Int) : (binOp .add t (.int k x) (.int k y)).run P w = .ok (.int k (k.wrap (x + y))) w := by simp [go_sem, binOp, Op.intArith]
theorem agR (t : TypeId) (k : IntKind) (x y : Int) : (binOp .sub t (.int k x) (.int k y)).run P w = .ok (.int k (k.wrap (x - y))) w := by simp [go_sem, binOp, Op.intArith]
theorem agE (t : TypeId) (k : IntKind) (x y : Int) : (binOp .mul t (.int k x) (.int k y)).run P w = .ok (.int k (k.wrap (x * y))) w := by simp [go_sem, binOp, Op.intArith]
theorem BV (b : Bool) : (Op.unary .not (.bool b)).run P w = .ok (.bool (!b)) w := by simp [go_sem, Op.unary]
def KP : TypeDesc → Bool
 | .struct _ | .array _ _ => true
 | _ => false
def yu (P : Program) (t : TypeId) : Bool := match P.underlying t with | some d => !KP d | none => false
def aY (P : Program) (t : TypeId) : Option Nat := (P.info? t).map (·.size)
def DD (P : Program) (t : TypeId) : Option Nat := match P.underlying t with | some d => (if KP d then aY P t else none) | none => none
def yR (P : Program) (t : TypeId) : Option Nat := match P.underlying t with | some (.slice e) => aY P e | _ => none
def ani (P : Program) (t : TypeId) : Bool := match P.underlying t with | some (.slice _) => true | _ => false
def isStr (P : Program) (t : TypeId) : Bool := match P.underlying t with | some .string => true | _ => false
def Aj (P : Program) (t : TypeId) : Option IntKind := match P.underlying t with | some (.int k) => some k | _ => none
def yE (P : Program) (t : TypeId) : Option (Array Value) := match P.info? t with | some i => i.zero.map (·.cells) | none => none
def acO (P : Program) (t : TypeId) (f : Nat) : Option Nat := match P.underlying t with
 | some (.struct fs) => (match fs[f]? with | some x => (match aY P x.type with | some (_ + 1) => some x.offset | _ => none) | none => none)
 | _ => none
def fTy (P : Program) (t : TypeId) (f : Nat) : Option (Nat × Option Nat) := match P.underlying t with
 | some (.struct fs) => (match fs[f]? with
  | some x => (match P.underlying x.type with | some d => (match KP d with | true => (aY P x.type).map (x.offset, some ·) | false => some (x.offset, none)) | none => none)
  | none => none)
 | _ => none
def acA (P : Program) (t : TypeId) : Option Nat := match P.underlying t with | some (.array n e) => (if yu P e && aY P e == some 1 then some n else none) | _ => none
theorem vI {t : TypeId} {cs : Array Value} (hz : yE P t = some cs)
  (h : ∀ b w', b = w.heap.size → w'.heap[b]? = some (.cells cs t (0, 0)) → w'.heap.size = w.heap.size + 1 → aB no w w' → K (.pointer (some ⟨b, 0, none⟩)) w') :
  bi ((Instr.alloc t true (.tuple #[])).run P w) R K := by
 unfold yE at hz
 split at hz
 ·rename_i i hi
  cases hiz : i.zero with
  | none => simp [hiz] at hz
  | some z =>
   simp only [hiz, Option.map_some, Option.some.injEq] at hz
   have hr : (Instr.alloc t true (.tuple #[])).run P w = .ok (.pointer (some ⟨w.heap.size, 0, none⟩)) { w with heap := w.heap.push (.cells cs t (0, 0)) } := by
    simp [Instr.alloc, zeroValue, typeInfo, hi, hiz, newVar, newRow, ← hz, Sem.run_bind, Result.andThen]
   rw [hr]
   exact h _ _ rfl (by simp) (by simp) ⟨rfl, rfl, rfl, by simp, fun k hk _ => by simp [Array.getElem?_push]; omega⟩
 ·cases hz
theorem aeQ {t : TypeId} {v : Value} {cs : Array Value} (hc : v.cells = cs)
  (h : ∀ b w', b = w.heap.size → w'.heap[b]? = some (.cells cs t (0, 0)) → w'.heap.size = w.heap.size + 1 → aB no w w' → K (.pointer (some ⟨b, 0, none⟩)) w') :
  bi ((Instr.box t v).run P w) R K := by
 have hr : (Instr.box t v).run P w = .ok (.pointer (some ⟨w.heap.size, 0, none⟩)) { w with heap := w.heap.push (.cells cs t (0, 0)) } := by
  simp [Instr.box, newVar, newRow, ← hc, Sem.run_bind, Result.andThen]
 rw [hr]
 exact h _ _ rfl (by simp) (by simp) ⟨rfl, rfl, rfl, by simp, fun k hk _ => by simp [Array.getElem?_push]; omega⟩
theorem KQ {t : TypeId} {a : Addr} {v : Value} (hu : yu P t = true) (hc : w.cell? a = some v) :
  (Instr.loadAt t (.pointer (some a))).run P w = .ok v w := by
 unfold yu at hu
 split at hu
 ·rename_i d hd
  simp only [Instr.loadAt, Instr.sureAddr, loadVar, isAgg, Sem.run_bind, Sem.run_pure, Result.andThen, run_underlying hd]
  cases d <;> simp [KP] at hu <;> simp [hc]
 ·cases hu
theorem kH {t b o : Nat} {cs : Array Value} {T : TypeId} {fr : Nat × Nat} {v : Value} (hu : yu P t = true) (hb : w.heap[b]? = some (.cells cs T fr)) (hv : cs[o]? = some v) :
  (Instr.loadAt t (.pointer (some ⟨b, o, none⟩))).run P w = .ok v w := KQ hu ((cell_of hb).trans hv)
theorem agS {t n b o : Nat} {T : TypeId} {fr : Nat × Nat} {cs : Array Value} (hn : DD P t = some n) (hb : w.heap[b]? = some (.cells cs T fr)) (hl : o + n ≤ cs.size) :
  (Instr.loadAt t (.pointer (some ⟨b, o, none⟩))).run P w = .ok (.agg (cs.extract o (o + n))) w := by
 unfold DD at hn
 split at hn
 ·rename_i d hu
  split at hn
  ·rename_i hd
   unfold aY at hn
   cases hi : P.info? t with
   | none => simp [hi] at hn
   | some i =>
    simp only [hi, Option.map_some, Option.some.injEq] at hn
    have hcells : ∀ j, j < n → w.cell? ((⟨b, o, none⟩ : Addr).add j) = some (cs.getD (o + j) undef) := fun j hj => by
     have hadd : (⟨b, o, none⟩ : Addr).add j = ⟨b, o + j, none⟩ := by unfold Addr.add; split <;> simp_all
     rw [hadd, cell_of hb]
     have : o + j < cs.size := by omega
     simp [Array.getD, this]
    have hlc := run_loadCells (P := P) w ⟨b, o, none⟩ n (fun j => cs.getD (o + j) undef) hcells
    have hagg : ((List.range n).map fun j => cs.getD (o + j) undef).toArray = cs.extract o (o + n) := by
     apply Array.ext
     ·simp; omega
     ·intro j h1 h2
      simp at h1
      have : o + j < cs.size := by omega
      simp [Array.getD, this]
    rw [hagg] at hlc
    simp only [Instr.loadAt, Instr.sureAddr, loadVar, isAgg, sizeOf, typeInfo, Sem.run_bind, Sem.run_pure, Result.andThen, run_underlying hu, run_program, hi, hn]
    cases d <;> simp [KP] at hd <;> simp [hi, hlc, Result.andThen, hn]
  ·cases hn
 ·cases hn
theorem CE {t n b o : Nat} {T : TypeId} {fr : Nat × Nat} {cs cs' : Array Value} (hn : DD P t = some n) (hb : w.heap[b]? = some (.cells cs T fr)) (hl : o + n ≤ cs.size) (hcs : cs.extract o (o + n) = cs') :
  (Instr.loadAt t (.pointer (some ⟨b, o, none⟩))).run P w = .ok (.agg cs') w := by rw [agS hn hb hl, hcs]
theorem iD {t : TypeId} {v : Value} {b o n : Nat} {T : TypeId} {cs cs' : Array Value} (hn : aY P t = some n) (hv : v.cells.size = n) (h1 : v.cells.all (·.oneCell') = true)
  (hb : w.heap[b]? = some (.cells cs T (0, 0))) (hl : o + n ≤ cs.size) (hcs : (cs.toList.take o ++ v.cells.toList ++ cs.toList.drop (o + n)).toArray = cs')
  (h : ∀ w', w'.heap[b]? = some (.cells cs' T (0, 0)) → w'.heap.size = w.heap.size → aB (· = b) w w' → K undef w') :
  uw ((Instr.storeAt t (.pointer (some ⟨b, o, none⟩)) v).run P w) R K := by
 unfold aY at hn
 cases hi : P.info? t with
 | none => simp [hi] at hn
 | some i =>
  simp only [hi, Option.map_some, Option.some.injEq] at hn
  have hst := run_storeCells_at (P := P) b o T v.cells.toList 0 cs w hb (by simp [hv]; omega) (fun x hx => by
   have := Array.all_eq_true'.1 h1 x (by simpa using hx)
   exact this)
  simp only [Nat.add_zero, Array.length_toList, hv, hcs] at hst
  have hr : (Instr.storeAt t (.pointer (some ⟨b, o, none⟩)) v).run P w = .ok () (w.setRow b cs') := by
   simp [Instr.storeAt, Instr.sureAddr, storeVar, sizeOf, typeInfo, Sem.run_bind, Result.andThen, hi, hv, hn, hst]
  rw [hr]
  have hlt := aj hb
  refine h _ (setRow_heap w b cs cs' T _ hb) (by simp [World.setRow]) ⟨rfl, rfl, rfl, by simp [World.setRow], fun k hk hs => ?_⟩
  simp only [World.setRow, Array.getElem?_modify]
  rw [if_neg (fun e => hs e.symm)]
theorem Nr {t n b o len cap : Nat} {k : IntKind} {i : Int} (hn : yR P t = some n) (h0 : 0 ≤ i) (h1 : i < len) :
  (Instr.indexAt t (.slice (some ⟨b, o, none⟩) len cap) (.int k i)).run P w = .ok (.pointer (some ⟨b, o + i.toNat * n, none⟩)) w := by
 unfold yR at hn
 split at hn
 ·rename_i e hu
  unfold aY at hn
  cases hi : P.info? e with
  | none => simp [hi] at hn
  | some inf =>
   simp only [hi, Option.map_some, Option.some.injEq] at hn
   have hadd : (⟨b, o, none⟩ : Addr).add (i.toNat * n) = ⟨b, o + i.toNat * n, none⟩ := by unfold Addr.add; split <;> simp_all
   simp [Instr.indexAt, asIntOf, Sem.run_bind, Result.andThen, run_underlying hu, h0, h1, sizeOf, typeInfo, hi, hn, hadd]
 ·cases hn
theorem IJ {t n m b o : Nat} {k : IntKind} {i : Int} (hn : (match P.underlying t with | some (.array n e) => (aY P e).map (n, ·) | _ => none) = some (n, m)) (h0 : 0 ≤ i) (h1 : i < n) :
  (Instr.indexAt t (.pointer (some ⟨b, o, none⟩)) (.int k i)).run P w = .ok (.pointer (some ⟨b, o + i.toNat * m, none⟩)) w := by
 split at hn
 ·rename_i n' e hu
  unfold aY at hn
  cases hi : P.info? e with
  | none => simp [hi] at hn
  | some inf =>
   simp only [hi, Option.map_some, Option.some.injEq, Prod.mk.injEq] at hn
   obtain ⟨rfl, hn⟩ := hn
   have hadd : (⟨b, o, none⟩ : Addr).add (i.toNat * m) = ⟨b, o + i.toNat * m, none⟩ := by unfold Addr.add; split <;> simp_all
   simp [Instr.indexAt, Instr.sureAddr, asIntOf, Sem.run_bind, Result.andThen, run_underlying hu, h0, h1, sizeOf, typeInfo, hi, hn, hadd]
 ·cases hn
theorem gK {t ty : TypeId} (hu : ani P t = true) (a : Option Addr) (len cap : Nat) : (Builtin.len_ #[t] ty #[.slice a len cap]).run P w = .ok (.int .i64 len) w := by
 unfold ani at hu
 split at hu
 ·rename_i e hd; simp [Builtin.len_, Sem.run_bind, Result.andThen, run_underlying hd, goInt]
 ·cases hu
theorem ai2 {t ty : TypeId} (hu : isStr P t = true) (s : ByteArray) : (Builtin.len_ #[t] ty #[.string s]).run P w = .ok (.int .i64 s.size) w := by
 unfold isStr at hu
 split at hu
 ·rename_i hd; simp [Builtin.len_, Sem.run_bind, Result.andThen, run_underlying hd, goInt]
 ·cases hu
theorem ET {vs : Array Value} {i : Nat} {v : Value} (h : vs[i]? = some v) : (Instr.extract (.tuple vs) i).run P w = .ok v w := by simp [Instr.extract, h]
theorem aeo {t n : Nat} {cs : Array Value} {k : IntKind} {i : Int} {v : Value} (hn : acA P t = some n) (h0 : 0 ≤ i) (h1 : i < n) (hv : cs[i.toNat]? = some v) :
  (Instr.index t (.agg cs) (.int k i)).run P w = .ok v w := by
 unfold acA at hn
 split at hn
 ·rename_i n' e hu
  split at hn
  ·rename_i he
   cases hn
   simp only [Bool.and_eq_true, beq_iff_eq] at he
   obtain ⟨he, hs⟩ := he
   unfold yu at he
   unfold aY at hs
   cases hi : P.info? e with
   | none => simp [hi] at hs
   | some inf =>
    simp only [hi, Option.map_some, Option.some.injEq] at hs
    split at he
    ·rename_i d hd
     simp only [Instr.index, asIntOf, Sem.run_bind, Sem.run_pure, Result.andThen, run_underlying hu, h0, h1, and_self, if_true, sizeOf, typeInfo, run_program, hi, hs, part, isAgg, run_underlying hd]
     cases d <;> simp [KP] at he <;> simp [hv]
    ·cases he
  ·cases hn
 ·cases hn
theorem O7 {s t : TypeId} {k k' : IntKind} {n : Int} (hs : (Aj P s).isSome = true) (ht : Aj P t = some k) : (convert s t (.int k' n)).run P w = .ok (.int k (k.wrap n)) w := by
 unfold Aj at hs ht
 split at hs
 ·rename_i k1 h1
  split at ht
  ·rename_i k2 h2
   cases ht
   simp [convert, Sem.run_bind, Result.andThen, run_underlying h1, run_underlying h2, Conv.intToInt]
  ·cases ht
 ·cases hs
theorem qc {t f b o off : Nat} (h : acO P t f = some off) : (Instr.fieldAt t (.pointer (some ⟨b, o, none⟩)) f).run P w = .ok (.pointer (some ⟨b, o + off, none⟩)) w := by
 unfold acO at h
 split at h
 ·rename_i fs hu
  split at h
  ·rename_i x hx
   split at h
   ·rename_i m hm
    cases h
    unfold aY at hm
    cases hi : P.info? x.type with
    | none => simp [hi] at hm
    | some inf =>
     simp only [hi, Option.map_some, Option.some.injEq] at hm
     have hadd : (⟨b, o, none⟩ : Addr).add x.offset = ⟨b, o + x.offset, none⟩ := by unfold Addr.add; split <;> simp_all
     simp [Instr.fieldAt, Sem.run_bind, Result.andThen, run_underlying hu, hx, Instr.sureAddr, fieldPlace, sizeOf, typeInfo, hi, hm, hadd]
   ·cases h
  ·cases h
 ·cases h
theorem qo {t f off : Nat} {cs : Array Value} {v : Value} (h : fTy P t f = some (off, none)) (hv : cs[off]? = some v) : (Instr.field t (.agg cs) f).run P w = .ok v w := by
 unfold fTy at h
 split at h
 ·rename_i fs hu
  split at h
  ·rename_i x hx
   split at h
   ·rename_i d hd
    split at h
    ·rename_i ha
     cases hc : aY P x.type <;> simp [hc] at h
    ·rename_i ha
     simp only [Option.some.injEq, Prod.mk.injEq, and_true] at h
     subst h
     simp only [Instr.field, Sem.run_bind, Result.andThen, run_underlying hu, hx, asAgg, Sem.run_pure, part, isAgg, run_underlying hd]
     cases d <;> simp [KP] at ha <;> simp [hv]
   ·cases h
  ·cases h
 ·cases h
def szs (P : Program) : List Field → Option (List (Nat × Nat))
 | [] => some []
 | f :: fs => match aY P f.type, szs P fs with | some n, some l => some ((f.offset, n) :: l) | _, _ => none
def blI (P : Program) (t : TypeId) : Option (List (Nat × Nat) × Array Value) := match P.underlying t, yE P t with
 | some (.struct fs), some z => (match szs P fs.toList with | some l => some (l, z) | none => none)
 | _, _ => none
theorem sK {t n : Nat} (h : aY P t = some n) : (sizeOf t).run P w = .ok n w := by
 unfold aY at h
 cases hi : P.info? t with
 | none => simp [hi] at h
 | some i =>
  simp only [hi, Option.map_some, Option.some.injEq] at h
  simp [sizeOf, typeInfo, hi, h, Sem.run_bind, Result.andThen]
theorem ZC : ∀ (fs : List Field) (l : List (Nat × Nat)), szs P fs = some l → (fs.mapM fun f => (do pure (f.offset, ← sizeOf f.type) : Sem (Nat × Nat))).run P w = .ok l w
 | [], l, h => by cases h; rfl
 | f :: fs, l, h => by
  simp only [szs] at h
  split at h
  ·rename_i n l' hn hl
   cases h
   rw [List.mapM_cons]
   rw [Sem.run_bind, Sem.run_bind, sK hn]
   simp only [Result.andThen, Sem.run_pure, Sem.run_bind, ZC fs l' hl]
  ·cases h
theorem Lp {t : TypeId} {z : Array Value} (h : yE P t = some z) : ∃ v, (zeroValue t).run P w = .ok v w ∧ v.cells = z := by
 unfold yE at h
 split at h
 ·rename_i i hi
  cases hz : i.zero with
  | none => simp [hz] at h
  | some v =>
   simp only [hz, Option.map_some, Option.some.injEq] at h
   exact ⟨v, by simp [zeroValue, typeInfo, hi, hz, Sem.run_bind, Result.andThen], h⟩
 ·cases h
def splice (l : List Value) (o : Nat) (xs : List Value) : List Value := l.take o ++ xs ++ l.drop (o + xs.length)
def eH (place : Nat → Option (Nat × Nat)) : List Value → List (Nat × Value) → Option (List Value)
 | l, [] => some l
 | l, (i, v) :: rest => match place i with
  | none => none
  | some (off, size) => if v.cells.toList.length = size ∧ off + size ≤ l.length then eH place (splice l off v.cells.toList) rest else none
theorem XA (xs : List Value) : ∀ (o j : Nat) (cur : Array Value), o + j + xs.length ≤ cur.size →
  ((xs.zipIdx j).foldl (fun (cs : Array Value) (x : Value × Nat) => cs.setIfInBounds (o + x.2) x.1) cur).toList = splice cur.toList (o + j) xs := by
 induction xs with
 | nil => intro o j cur _; simp [splice]
 | cons v vs ih =>
  intro o j cur h
  simp only [List.length_cons] at h
  simp only [List.zipIdx_cons, List.foldl_cons]
  rw [ih o (j + 1) (cur.setIfInBounds (o + j) v) (by simp; omega)]
  have hlt : o + j < cur.toList.length := by simp; omega
  simp only [splice, Array.toList_setIfInBounds, List.length_cons]
  have e1 : o + (j + 1) = o + j + 1 := by omega
  have e2 : o + j + 1 + vs.length = o + j + (vs.length + 1) := by omega
  rw [e1, e2]
  rw [List.take_set, List.take_succ_eq_append_getElem hlt, List.set_append_right (s := cur.toList.take (o + j)) _ _ (by simp; omega)]
  have hl : (cur.toList.take (o + j)).length = o + j := by simp; omega
  rw [hl, Nat.sub_self]
  simp only [List.set_cons_zero, List.append_assoc, List.cons_append, List.nil_append]
  rw [List.drop_set_of_lt (by omega)]
theorem MH {place : Nat → Option (Nat × Nat)} : ∀ (parts : List (Nat × Value)) (z : Array Value) (cs : List Value), eH place z.toList parts = some cs → Instr.fill place z parts = some cs.toArray
 | [], z, cs, h => by simp only [eH, Option.some.injEq] at h; subst h; simp [Instr.fill]
 | (i, v) :: rest, z, cs, h => by
  simp only [eH] at h
  split at h
  ·cases h
  ·rename_i off size hp
   split at h
   ·rename_i hc
    obtain ⟨h1, h2⟩ := hc
    simp only [Array.length_toList] at h1 h2
    simp only [Instr.fill, hp]
    rw [if_neg (by simp only [Bool.or_eq_true, decide_eq_true_eq, not_or]; omega)]
    have e : (v.cells.zipIdx.foldl (fun (cs : Array Value) (x : Value × Nat) => cs.setIfInBounds (off + x.2) x.1) z).toList = splice z.toList off v.cells.toList := by
     rw [← Array.foldl_toList, Array.toList_zipIdx]
     have := XA v.cells.toList off 0 z (by simp; omega)
     simpa using this
    exact MH rest _ cs (by rw [e]; exact h)
   ·cases h
theorem bF {t : TypeId} {l : List (Nat × Nat)} {z : Array Value} {cs : List Value} {parts : List (Nat × Value)} (h : blI P t = some (l, z)) (hf : eH (fun i => l[i]?) z.toList parts = some cs) :
  (Instr.build t parts.toArray).run P w = .ok (.agg cs.toArray) w := by
 unfold blI at h
 split at h
 ·rename_i fs z' hu hz
  split at h
  ·rename_i l' hl
   cases h
   obtain ⟨v, hv, hvc⟩ := Lp (w := w) hz
   have hm : (fs.mapM fun f => (do pure (f.offset, ← sizeOf f.type) : Sem (Nat × Nat))).run P w = .ok l.toArray w := by
    rw [Array.mapM_eq_mapM_toList, map_eq_pure_bind, Sem.run_bind, ZC fs.toList l hl]
    rfl
   simp only [Instr.build, Sem.run_bind, hv, Result.andThen, Sem.run_pure, run_underlying hu, hm, hvc]
   have : (fun i : Nat => l.toArray[i]?) = fun i : Nat => l[i]? := by funext i; simp
   rw [this]
   simp only [MH parts _ _ hf]
   rfl
  ·cases h
 ·cases h
theorem uD {t n m : Nat} {z : Array Value} {cs : List Value} {parts : List (Nat × Value)} (hz : yE P t = some z) (hn : (match P.underlying t with | some (.array n e) => (aY P e).map (n, ·) | _ => none) = some (n, m))
  (hf : eH (fun i => some (i * m, m)) z.toList parts = some cs) :
  (Instr.build t parts.toArray).run P w = .ok (.agg cs.toArray) w := by
 split at hn
 ·rename_i n' e hu
  unfold aY at hn
  cases hi : P.info? e with
  | none => simp [hi] at hn
  | some inf =>
   simp only [hi, Option.map_some, Option.some.injEq, Prod.mk.injEq] at hn
   obtain ⟨rfl, rfl⟩ := hn
   obtain ⟨v, hv, hvc⟩ := Lp (w := w) hz
   simp [Instr.build, Sem.run_bind, hv, Result.andThen, run_underlying hu, hvc, sizeOf, typeInfo, hi, MH parts _ _ hf]
 ·cases hn
def OM (z : Array Value) (n : Nat) : Array Value := (Array.range n).map (fun i => z[i % z.size]!)
def slE (P : Program) (t : TypeId) : Option (Nat × Nat) := match P.underlying t with | some (.slice e) => (match aY P e with | some m => some (e, m) | none => none) | _ => none
theorem agT {t e m : Nat} (h : slE P t = some (e, m)) : P.underlying t = some (.slice e) ∧ aY P e = some m := by
 unfold slE at h
 split at h
 ·rename_i e' hu
  split at h
  ·rename_i m' hm; cases h; exact ⟨hu, hm⟩
  ·cases h
 ·cases h
def fO (z : List Value) : Nat → List Value
 | 0 => []
 | n + 1 => z ++ fO z n
theorem Zy (z : Array Value) (len : Nat) : (OM (if len * z.size = 0 then #[] else z) (len * z.size)).toList = fO z.toList len := by
 by_cases h0 : z.size = 0
 ·have : z = #[] := by simpa using h0
  subst this
  have : ∀ n, fO ([] : List Value) n = [] := by intro n; induction n with | zero => rfl | succ n ih => simp [fO, ih]
  simp [OM, this]
 ·have key : ∀ n, ((List.range (n * z.size)).map fun i => z[i % z.size]!) = fO z.toList n := by
   intro n
   induction n with
   | zero => simp [fO]
   | succ n ih =>
    have : (n + 1) * z.size = z.size + n * z.size := by rw [Nat.add_mul]; omega
    rw [this, List.range_add, List.map_append, fO, ← ih]
    congr 1
    ·apply List.ext_getElem
     ·simp
     ·intro i h1 h2
      simp at h1 h2
      simp [Nat.mod_eq_of_lt h2, h2]
    ·simp only [List.map_map]
     apply List.map_congr_left
     intro i _
     simp
  by_cases hl : len * z.size = 0
  ·have : len = 0 := by rcases Nat.mul_eq_zero.1 hl with h | h; exact h; exact absurd h h0
   subst this
   simp [OM, fO]
  ·rw [if_neg hl]
   simp only [OM, Array.toList_map, Array.toList_range]
   exact key len
theorem dG {t len m e : Nat} {z : Array Value} {cs : List Value} {parts : List (Nat × Value)} (hn : slE P t = some (e, m)) (hz : yE P e = some z)
  (hm' : z.size = m) (hsm : len * m ≤ 16777216) (hf : eH (fun i => some (i * m, m)) (fO z.toList len) parts = some cs)
  (h : ∀ b w', b = w.heap.size → w'.heap[b]? = some (.cells cs.toArray e (0, 0)) → w'.heap.size = w.heap.size + 1 → aB no w w' → K (.slice (some ⟨b, 0, none⟩) len len) w') :
  bi ((Instr.buildSlice t len parts.toArray).run P w) R K := by
 obtain ⟨hu, hm⟩ := agT hn
 subst hm'
 rw [← Zy] at hf
 have hf := MH parts _ _ hf
 generalize hm0 : z.size = m at *
 obtain ⟨v, hv, hvc⟩ := Lp (w := w) hz
 have h1 : ¬ len * m > 2 ^ 24 := by omega
 have hr : (Instr.buildSlice t len parts.toArray).run P w = .ok (.slice (some ⟨w.heap.size, 0, none⟩) len len) { w with heap := w.heap.push (.cells cs.toArray e (0, 0)) } := by
  simp only [Instr.buildSlice, Sem.run_bind, Result.andThen, run_underlying hu, sK hm]
  rw [if_neg h1]
  by_cases h0 : len * m = 0
  ·rw [if_pos h0] at hf
   rw [if_pos h0]
   simp only [OM] at hf
   simp only [Sem.run_bind, Sem.run_pure, Result.andThen, hf]
   rfl
  ·rw [if_neg h0] at hf
   rw [if_neg h0]
   simp only [OM] at hf
   simp only [Sem.run_bind, Sem.run_pure, Result.andThen, hv, hvc, hf]
   rfl
 rw [hr]
 exact h _ _ rfl (by simp) (by simp) ⟨rfl, rfl, rfl, by simp, fun k hk _ => by simp [Array.getElem?_push]; omega⟩
theorem ak {r : Result Value} {v : Value} {w' : World} (h : r = .ok v w') (k : K v w') : bi r R K := by rw [h]; exact k
theorem az {r : Result Value} {p : Prop} [Decidable p] {w' : World} (h : r = .ok (.bool (decide p)) w') (ht : p → K (.bool true) w') (hf : ¬ p → K (.bool false) w') : bi r R K := by
 rw [h]
 by_cases hp : p
 ·rw [decide_eq_true hp]; exact ht hp
 ·rw [decide_eq_false hp]; exact hf hp
theorem aA {f : FuncId} {args : Array Value} {v : Value} {D : World → Prop} (hc : Calls P f args w fun e w' => e = .returned v ∧ D w') (h : ∀ w', D w' → K v w') : lh P f args w R K :=
 hc.mono fun e w' he => by rw [he.1]; exact h w' he.2
theorem aI {f : FuncId} {args : Array Value} {D : Value → World → Prop} (hc : Calls P f args w fun e w' => ∃ v, e = .returned v ∧ D v w') (h : ∀ v w', D v w' → K v w') : lh P f args w R K :=
 hc.mono fun e w' he => by obtain ⟨v, he, hd⟩ := he; rw [he]; exact h v w' hd
theorem eG {e : Env} {body : Env → Env → World → (Env → World → Prop) → Prop} (I : Env → World → Prop) (μ : Env → World → Nat) (h0 : I e w)
  (h : ∀ g w, I g w → body e g w fun g' w' => I g' w' ∧ μ g' w' < μ g w) : loop e w body := ⟨I, μ, h0, h⟩
theorem wrap_i64 {x : Int} (h1 : -9223372036854775808 ≤ x) (h2 : x ≤ 9223372036854775807) : IntKind.i64.wrap x = x := IntWalk.i64_in x ⟨h1, h2⟩
theorem wrap_i32 {x : Int} (h1 : -2147483648 ≤ x) (h2 : x ≤ 2147483647) : IntKind.i32.wrap x = x := IntWalk.i32_in x ⟨h1, h2⟩
theorem wrap_u8 {x : Int} (h1 : 0 ≤ x) (h2 : x ≤ 255) : IntKind.u8.wrap x = x := IntWalk.u8_in x ⟨h1, h2⟩
attribute [push_cast] ana anb aoX aoY aoZ ao0 ao1 anc ane acN anf ang lss leq gtr geq dh jO eqS neS Kr agR agE BV wrap_i64 wrap_i32 wrap_u8 upd_same
theorem jE : (Op.unary .not (.bool true)).run P w = .ok (.bool false) w := BV true
theorem mY : (Op.unary .not (.bool false)).run P w = .ok (.bool true) w := BV false
def inK (k : IntKind) (x : Int) : Prop := match k with
 | .i8 => -128 ≤ x ∧ x ≤ 127
 | .i16 => -32768 ≤ x ∧ x ≤ 32767
 | .i32 => -2147483648 ≤ x ∧ x ≤ 2147483647
 | .i64 => -9223372036854775808 ≤ x ∧ x ≤ 9223372036854775807
 | .u8 => 0 ≤ x ∧ x ≤ 255
 | .u16 => 0 ≤ x ∧ x ≤ 65535
 | .u32 => 0 ≤ x ∧ x ≤ 4294967295
 | .u64 => 0 ≤ x ∧ x ≤ 18446744073709551615
theorem wrap_in {k : IntKind} {x : Int} (h : inK k x) : k.wrap x = x := by
 cases k
 ·exact IntWalk.i8_in x h
 ·exact IntWalk.i16_in x h
 ·exact IntWalk.i32_in x h
 ·exact IntWalk.i64_in x h
 ·exact IntWalk.u8_in x h
 ·exact IntWalk.u16_in x h
 ·exact IntWalk.u32_in x h
 ·exact IntWalk.u64_in x h
theorem Ap {r : Result Value} {v : Value} {K : Value → Prop} (h : r = .ok v w) (k : K v) : jo r w K := by rw [h]; exact ⟨rfl, k⟩
theorem bQ {e : Env} {A : (Env → World → Prop) → Prop} {r : Env → Env → World → Prop} (I : Env → World → Prop) (hA : ∀ J : Env → World → Prop, (∀ g w, I g w → J g w) → A J) (hr : ∀ g w, I g w → r e g w) : join e A r :=
 hA (r e) (fun g w h => hr g w h)
theorem ajd (t : TypeId) {x y : Int} (h : -2147483648 ≤ x + y ∧ x + y ≤ 2147483647) : (binOp .add t (.int .i32 x) (.int .i32 y)).run P w = .ok (.int .i32 (x + y)) w := by rw [Kr, wrap_in (k := .i32) h]
theorem NV {s t : TypeId} {k' : IntKind} {x : Int} (hs : (Aj P s).isSome = true) (ht : Aj P t = some .i32) (h : -2147483648 ≤ x ∧ x ≤ 2147483647) : (convert s t (.int k' x)).run P w = .ok (.int .i32 x) w := by rw [O7 hs ht, wrap_in (k := .i32) h]
theorem dJ (t : TypeId) {x y : Int} (h : -9223372036854775808 ≤ x + y ∧ x + y ≤ 9223372036854775807) : (binOp .add t (.int .i64 x) (.int .i64 y)).run P w = .ok (.int .i64 (x + y)) w := by rw [Kr, wrap_in (k := .i64) h]
theorem yS (t : TypeId) {x y : Int} (h : -9223372036854775808 ≤ x - y ∧ x - y ≤ 9223372036854775807) : (binOp .sub t (.int .i64 x) (.int .i64 y)).run P w = .ok (.int .i64 (x - y)) w := by rw [agR, wrap_in (k := .i64) h]
theorem Gx (t : TypeId) {x y : Int} (h : -9223372036854775808 ≤ x * y ∧ x * y ≤ 9223372036854775807) : (binOp .mul t (.int .i64 x) (.int .i64 y)).run P w = .ok (.int .i64 (x * y)) w := by rw [agE, wrap_in (k := .i64) h]
theorem kC {s t : TypeId} {k' : IntKind} {x : Int} (hs : (Aj P s).isSome = true) (ht : Aj P t = some .i64) (h : -9223372036854775808 ≤ x ∧ x ≤ 9223372036854775807) : (convert s t (.int k' x)).run P w = .ok (.int .i64 x) w := by rw [O7 hs ht, wrap_in (k := .i64) h]
theorem adw (t : TypeId) {x y : Int} (h : 0 ≤ x + y ∧ x + y ≤ 255) : (binOp .add t (.int .u8 x) (.int .u8 y)).run P w = .ok (.int .u8 (x + y)) w := by rw [Kr, wrap_in (k := .u8) h]
theorem rP (t : TypeId) {x y : Int} (h : 0 ≤ x - y ∧ x - y ≤ 255) : (binOp .sub t (.int .u8 x) (.int .u8 y)).run P w = .ok (.int .u8 (x - y)) w := by rw [agR, wrap_in (k := .u8) h]
theorem yY {s t : TypeId} {k' : IntKind} {x : Int} (hs : (Aj P s).isSome = true) (ht : Aj P t = some .u8) (h : 0 ≤ x ∧ x ≤ 255) : (convert s t (.int k' x)).run P w = .ok (.int .u8 x) w := by rw [O7 hs ht, wrap_in (k := .u8) h]
theorem aV {op : (Value → World → Prop) → Prop} (h : op K) : gd (.bool true) true op w K := h
theorem aW {op : (Value → World → Prop) → Prop} (h : op K) : gd (.bool false) false op w K := h
theorem bg {op : (Value → World → Prop) → Prop} (h : K undef w) : gd (.bool true) false op w K := h
theorem aP {op : (Value → World → Prop) → Prop} (h : K undef w) : gd (.bool false) true op w K := h
theorem tN {want : Bool} {op : (Value → World → Prop) → Prop} (h : K undef w) : gd undef want op w K := h
theorem aU {a b : Value} (h : K a w) : pick (.bool true) a b w K := h
theorem aQ {a b : Value} (h : K b w) : pick (.bool false) a b w K := h
theorem dB {a : Addr} (h : K (.pointer (some a)) w) : df (.pointer (some a)) w K := h
theorem aK {A B : Prop} (h : A) : cond (.bool true) A B := h
theorem aH {A B : Prop} (h : B) : cond (.bool false) A B := h
end Go.Sh
end
section
namespace Go.Sh
open Go
variable {P : Program} {R : Ending → World → Prop} {K : Value → World → Prop} {w : World}
def Rd (w : World) (A : Option Addr) (xs : List Value) : Prop :=
 xs = [] ∨ ∃ a, A = some a ∧ ∀ j, j < xs.length → w.cell? (a.add j) = xs[j]?
def fC (A : Option Addr) : Nat → Prop := fun k => ∃ a, A = some a ∧ a.block = k
theorem add_block (a : Addr) (n : Nat) : (a.add n).block = a.block := by unfold Addr.add; split <;> rfl
theorem add_add (a : Addr) (m n : Nat) : (a.add m).add n = a.add (m + n) := by
 unfold Addr.add
 by_cases h1 : m = 0
 ·subst h1; simp
 ·by_cases h2 : n = 0
  ·subst h2; simp [h1]
  ·have : m + n ≠ 0 := by omega
   simp [h1, h2]
   omega
theorem Rd.nil (w : World) (A : Option Addr) : Rd w A [] := .inl rfl
theorem Rd.upd {S : Nat → Prop} {w w' : World} {A : Option Addr} {xs : List Value} (h : Rd w A xs) (u : aB S w w') (hs : ∀ k, fC A k → ¬ S k) : Rd w' A xs := by
 rcases h with h | ⟨a, rfl, r⟩
 ·exact .inl h
 ·refine .inr ⟨a, rfl, fun j hj => ?_⟩
  have h1 := r j hj
  rw [List.getElem?_eq_getElem hj] at h1 ⊢
  exact u.cell h1 (by rw [add_block]; exact hs _ ⟨_, rfl, rfl⟩)
theorem Rd.ai {w w' : World} {A : Option Addr} {xs : List Value} (h : Rd w A xs) (u : aB no w w') : Rd w' A xs := h.upd u (fun _ _ => id)
def GZ (A : Option Addr) (xs : List Value) (B : Nat) : Prop := xs = [] ∨ ∀ k, fC A k → k < B
theorem Rd.lt {w : World} {A : Option Addr} {xs : List Value} (h : Rd w A xs) : GZ A xs w.heap.size := by
 rcases h with h | ⟨a, rfl, r⟩
 ·exact .inl h
 ·by_cases hx : xs = []
  ·exact .inl hx
  ·refine .inr fun k hk => ?_
   obtain ⟨a', ha, rfl⟩ := hk
   cases ha
   have hl : 0 < xs.length := List.length_pos_iff.2 hx
   have h1 := r 0 hl
   rw [List.getElem?_eq_getElem hl] at h1
   have := World.block_lt_of_cell? w _ h1
   rw [add_block] at this
   exact this
theorem GZ.ne {A : Option Addr} {xs : List Value} {B : Nat} (h : GZ A xs B) {b : Nat} (hb : B ≤ b) : xs = [] ∨ ∀ k, fC A k → k ≠ b := h.imp_right fun h k hk => by have := h k hk; omega
theorem GZ.mono {A : Option Addr} {xs : List Value} {B B' : Nat} (h : GZ A xs B) (hb : B ≤ B') : GZ A xs B' := h.imp_right fun h k hk => by have := h k hk; omega
theorem Rd.apart {w : World} {A : Option Addr} {xs : List Value} (h : Rd w A xs) {b : Nat} (hb : b = w.heap.size) : xs = [] ∨ ∀ k, fC A k → k ≠ b := h.lt.ne (by omega)
theorem Rd.dO {S : Nat → Prop} {w w' : World} {A : Option Addr} {xs : List Value} (h : Rd w A xs) (u : aB S w w') (hs : xs = [] ∨ ∀ k, fC A k → ¬ S k) : Rd w' A xs := by
 rcases hs with rfl | hs
 ·exact .inl rfl
 ·exact h.upd u hs
theorem Rd.aF {w w' : World} {A : Option Addr} {xs : List Value} {b : Nat} (h : Rd w A xs) (u : aB (· = b) w w') (hs : xs = [] ∨ ∀ k, fC A k → k ≠ b) : Rd w' A xs := h.dO u hs
theorem Rd.fr {B : Nat} {w w' : World} {A : Option Addr} {xs : List Value} (h : Rd w A xs) (u : Fr no B w w') (hs : GZ A xs B) : Rd w' A xs := by
 rcases h with h | ⟨a, rfl, r⟩
 ·exact .inl h
 ·rcases hs with rfl | hs
  ·exact .inl rfl
  ·refine .inr ⟨a, rfl, fun j hj => ?_⟩
   have h1 := r j hj
   rw [World.cell?_of_block (u.block _ (by rw [add_block]; exact hs _ ⟨_, rfl, rfl⟩) id)]
   exact h1
theorem amF (b o n : Nat) : (⟨b, o, none⟩ : Addr).add n = ⟨b, o + n, none⟩ := by unfold Addr.add; split <;> simp_all
theorem Rd.of_block {w : World} {g : Nat} {T : TypeId} {fr : Nat × Nat} {cs : Array Value} (hg : w.heap[g]? = some (.cells cs T fr)) : Rd w (some ⟨g, 0, none⟩) cs.toList :=
 .inr ⟨_, rfl, fun j hj => by rw [amF, cell_of hg]; simp⟩
theorem Rd.mP {w : World} {g : Nat} {T : TypeId} {fr : Nat × Nat} {xs : List Value} (hg : w.heap[g]? = some (.cells xs.toArray T fr)) : Rd w (some ⟨g, 0, none⟩) xs := Rd.of_block hg
theorem Rd.take {w : World} {A : Option Addr} {xs : List Value} (h : Rd w A xs) (n : Nat) : Rd w A (xs.take n) := by
 rcases h with rfl | ⟨a, rfl, r⟩
 ·left; simp
 ·refine .inr ⟨a, rfl, fun j hj => ?_⟩
  simp only [List.length_take] at hj
  rw [r j (by omega), List.getElem?_take, if_pos (by omega)]
theorem OB {t n len cap : Nat} {a : Addr} {k : IntKind} {i : Int} (hn : yR P t = some n) (h0 : 0 ≤ i) (h1 : i < len) :
  (Instr.indexAt t (.slice (some a) len cap) (.int k i)).run P w = .ok (.pointer (some (a.add (i.toNat * n)))) w := by
 unfold yR at hn
 split at hn
 ·rename_i e hu
  unfold aY at hn
  cases hi : P.info? e with
  | none => simp [hi] at hn
  | some inf =>
   simp only [hi, Option.map_some, Option.some.injEq] at hn
   simp [Instr.indexAt, asIntOf, Sem.run_bind, Result.andThen, run_underlying hu, h0, h1, sizeOf, typeInfo, hi, hn]
 ·cases hn
theorem aem {t n : Nat} {a : Addr} {cs : Array Value} (hn : DD P t = some n) (hl : cs.size = n) (hc : ∀ j, j < n → w.cell? (a.add j) = cs[j]?) :
  (Instr.loadAt t (.pointer (some a))).run P w = .ok (.agg cs) w := by
 unfold DD at hn
 split at hn
 ·rename_i d hu
  split at hn
  ·rename_i hd
   unfold aY at hn
   cases hi : P.info? t with
   | none => simp [hi] at hn
   | some i =>
    simp only [hi, Option.map_some, Option.some.injEq] at hn
    have hcells : ∀ j, j < n → w.cell? (a.add j) = some (cs.getD j undef) := fun j hj => by
     rw [hc j hj]
     have : j < cs.size := by omega
     simp [Array.getD, this]
    have hlc := run_loadCells (P := P) w a n (fun j => cs.getD j undef) hcells
    have hagg : ((List.range n).map fun j => cs.getD j undef).toArray = cs := by
     apply Array.ext
     ·simp; omega
     ·intro j h1 h2
      simp [Array.getD, h2]
    rw [hagg] at hlc
    simp only [Instr.loadAt, Instr.sureAddr, loadVar, isAgg, sizeOf, typeInfo, Sem.run_bind, Sem.run_pure, Result.andThen, run_underlying hu, run_program, hi, hn]
    cases d <;> simp [KP] at hd <;> simp [hi, hlc, Result.andThen, hn]
  ·cases hn
 ·cases hn
theorem aen {t T len cap : Nat} {k : IntKind} {i : Int} {A : Option Addr} {xs : List Value} {v : Value} (hn : yR P t = some 1) (hT : yu P T = true) (hr : Rd w A xs) (hl : len = xs.length) (h0 : 0 ≤ i) (h1 : i < len) (hv : xs[i.toNat]? = some v)
  (h : K v w) : bi ((Instr.indexAt t (.slice A len cap) (.int k i)).run P w) R fun a w => bi ((Instr.loadAt T a).run P w) R K := by
 subst hl
 rcases hr with hr | ⟨a, rfl, hc⟩
 ·subst hr; simp at h1; omega
 ·refine ak (OB (n := 1) hn h0 h1) ?_
  refine ak (KQ hT ?_) h
  rw [Nat.mul_one, hc _ (by omega)]; exact hv
theorem Sm {t T m len cap : Nat} {k : IntKind} {i : Int} {A : Option Addr} {xs cs' : List Value} (hn : yR P t = some m) (hT : DD P T = some m) (hr : Rd w A xs) (hm : 0 < m) (hl : len * m = xs.length) (h0 : 0 ≤ i) (h1 : i < len)
  (hv : (xs.drop (i.toNat * m)).take m = cs')
  (h : K (.agg cs'.toArray) w) : bi ((Instr.indexAt t (.slice A len cap) (.int k i)).run P w) R fun a w => bi ((Instr.loadAt T a).run P w) R K := by
 have hi : i.toNat < len := by omega
 have him : i.toNat * m + m ≤ xs.length := by
  rw [← hl]
  have : (i.toNat + 1) * m ≤ len * m := Nat.mul_le_mul_right m hi
  rw [Nat.add_mul, Nat.one_mul] at this
  exact this
 rcases hr with hr | ⟨a, rfl, hc⟩
 ·subst hr; simp at him; omega
 ·refine ak (OB (n := m) hn h0 h1) ?_
  subst hv
  refine ak (aem (n := m) hT (by simp; omega) ?_) h
  intro j hj
  rw [add_add, hc _ (by omega)]
  simp [List.getElem?_take, hj]
def wC (A : Option Addr) (xs : List Value) (B : Nat) : Prop := xs = [] ∨ ∀ k, fC A k → B ≤ k
theorem wC.ne {A : Option Addr} {xs : List Value} {B b : Nat} (h : wC A xs B) (hb : b < B) : xs = [] ∨ ∀ k, fC A k → k ≠ b := h.imp_right fun h k hk => by have := h k hk; omega
theorem wC.of_block {g o B : Nat} {s : Option Nat} {xs : List Value} (h : B ≤ g) : wC (some ⟨g, o, s⟩) xs B := .inr fun k ⟨a, ha, hk⟩ => by cases ha; subst hk; exact h
theorem eF {f : FuncId} {args : Array Value} {b : Bool} {D : World → Prop} (hc : Calls P f args w fun e w' => e = .returned (.bool b) ∧ D w') (ht : ∀ w', D w' → b = true → K (.bool true) w') (hf : ∀ w', D w' → b = false → K (.bool false) w') : lh P f args w R K :=
 aA hc fun w' hd => by cases b; exact hf w' hd rfl; exact ht w' hd rfl
theorem qf {r : Result Value} {p : Prop} [Decidable p] {w' : World} (h : r = .ok (.bool (decide p)) w') (hp : p) (k : K (.bool true) w') : bi r R K := by
 rw [h, decide_eq_true hp]; exact k
theorem jQ {r : Result Value} {p : Prop} [Decidable p] {w' : World} (h : r = .ok (.bool (decide p)) w') (hp : ¬ p) (k : K (.bool false) w') : bi r R K := by
 rw [h, decide_eq_false hp]; exact k
theorem o9 {f : FuncId} {args : Array Value} {b : Bool} {D : World → Prop} (hc : Calls P f args w fun e w' => e = .returned (.bool b) ∧ D w') (hb : b = true) (h : ∀ w', D w' → K (.bool true) w') : lh P f args w R K :=
 aA hc fun w' hd => by subst hb; exact h w' hd
theorem L9 {f : FuncId} {args : Array Value} {b : Bool} {D : World → Prop} (hc : Calls P f args w fun e w' => e = .returned (.bool b) ∧ D w') (hb : b = false) (h : ∀ w', D w' → K (.bool false) w') : lh P f args w R K :=
 aA hc fun w' hd => by subst hb; exact h w' hd
def vals (k : IntKind) (xs : List Int) : List Value := xs.map (.int k)
theorem vals_length (k : IntKind) (xs : List Int) : (vals k xs).length = xs.length := by simp [vals]
theorem Mc {k : IntKind} {xs : List Int} {i : Nat} {x : Int} (h : xs[i]? = some x) : (vals k xs)[i]? = some (.int k x) := by simp [vals, h]
theorem rG {k : IntKind} {xs : List Int} : ∀ u ∈ vals k xs, u.oneCell' = true := by intro u hu; simp [vals] at hu; obtain ⟨x, _, rfl⟩ := hu; rfl
theorem uN (k : IntKind) (xs : List Int) (i : Nat) (x : Int) : (vals k xs).set i (.int k x) = vals k (xs.set i x) := by simp [vals, List.map_set]
theorem ui (k : IntKind) (xs ys : List Int) : vals k xs ++ vals k ys = vals k (xs ++ ys) := by simp [vals]
def Bs (xs : List Int) : Prop := ∀ x ∈ xs, 0 ≤ x ∧ x ≤ 255
instance (xs : List Int) : Decidable (Bs xs) := inferInstanceAs (Decidable (∀ x ∈ xs, 0 ≤ x ∧ x ≤ 255))
theorem Bs.get {xs : List Int} (h : Bs xs) {i : Nat} {x : Int} (hx : xs[i]? = some x) : 0 ≤ x ∧ x ≤ 255 := h x (List.mem_of_getElem? hx)
theorem Bs.append {xs ys : List Int} (h : Bs xs) (k : Bs ys) : Bs (xs ++ ys) := fun x hx => by rcases List.mem_append.1 hx with hx | hx; exact h x hx; exact k x hx
theorem Bs.nil : Bs [] := fun x hx => by cases hx
theorem Bs.one {x : Int} (h : 0 ≤ x ∧ x ≤ 255) : Bs [x] := fun y hy => by simp at hy; subst hy; exact h
theorem nC {t T len cap : Nat} {k k' : IntKind} {i : Int} {A : Option Addr} {xs : List Int} (hn : yR P t = some 1) (hT : yu P T = true) (hr : Rd w A (vals k xs)) (hl : len = xs.length) (h0 : 0 ≤ i) (h1 : i < len)
  (h : ∀ x, xs[i.toNat]? = some x → K (.int k x) w) : bi ((Instr.indexAt t (.slice A len cap) (.int k' i)).run P w) R fun a w => bi ((Instr.loadAt T a).run P w) R K := by
 have hi : i.toNat < xs.length := by omega
 have hx : xs[i.toNat]? = some xs[i.toNat] := List.getElem?_eq_getElem hi
 exact aen hn hT hr (by rw [vals_length]; exact hl) h0 h1 (Mc hx) (h _ hx)
theorem nH {t : TypeId} {v : Value} {b o : Nat} {T : TypeId} {xs xs' : List Value} (hn : aY P t = some 1) (hv : v.cells = #[v]) (h1 : v.oneCell' = true)
  (hb : w.heap[b]? = some (.cells xs.toArray T (0, 0))) (hl : o < xs.length) (hx : xs.set o v = xs')
  (h : ∀ w', w'.heap[b]? = some (.cells xs'.toArray T (0, 0)) → w'.heap.size = w.heap.size → aB (· = b) w w' → K undef w') :
  uw ((Instr.storeAt t (.pointer (some ⟨b, o, none⟩)) v).run P w) R K := by
 refine iD (n := 1) hn (by rw [hv]; rfl) (by rw [hv]; simp [h1]) hb (by simp only [List.size_toArray]; omega) (cs' := xs'.toArray) ?_ h
 subst hx
 rw [hv]
 congr 1
 simp only [List.set_eq_take_append_cons_drop, if_pos hl, List.append_assoc]
 simp
theorem aok {t n b : Nat} {T : TypeId} {fr : Nat × Nat} {xs : List Value} (hn : DD P t = some n) (hb : w.heap[b]? = some (.cells xs.toArray T fr)) (hl : xs.length = n) :
  (Instr.loadAt t (.pointer (some ⟨b, 0, none⟩))).run P w = .ok (.agg xs.toArray) w := by
 refine CE hn hb (by simp [hl]) ?_
 subst hl
 simp
theorem QO {t n : Nat} {b : Nat} {T : TypeId} {xs ys : List Value} (hn : aY P t = some n) (hy : ys.length = n) (hx : xs.length = n) (h1 : ∀ u ∈ ys, u.oneCell' = true)
  (hb : w.heap[b]? = some (.cells xs.toArray T (0, 0)))
  (h : ∀ w', w'.heap[b]? = some (.cells ys.toArray T (0, 0)) → w'.heap.size = w.heap.size → aB (· = b) w w' → K undef w') :
  uw ((Instr.storeAt t (.pointer (some ⟨b, 0, none⟩)) (.agg ys.toArray)).run P w) R K := by
 have hc : (Value.agg ys.toArray).cells = ys.toArray := rfl
 refine iD (n := n) hn (by rw [hc]; simpa using hy) (by rw [hc, Array.all_eq_true']; intro u hu; exact h1 u (by simpa using hu)) hb (by simp [hx]) (cs' := ys.toArray) ?_ h
 rw [hc]
 subst hx
 simp
theorem aas {t n : Nat} {k k' : IntKind} {i : Int} {xs : List Int} (hn : acA P t = some n) (hl : xs.length = n) (h0 : 0 ≤ i) (h1 : i < n)
  (h : ∀ x, xs[i.toNat]? = some x → K (.int k x) w) : bi ((Instr.index t (.agg (vals k xs).toArray) (.int k' i)).run P w) R K := by
 have hi : i.toNat < xs.length := by omega
 have hx : xs[i.toNat]? = some xs[i.toNat] := List.getElem?_eq_getElem hi
 exact ak (aeo hn h0 h1 (by simpa using Mc hx)) (h _ hx)
theorem cnt_lt {N k : Nat} {v v' : Value} (h : v = .int .i64 k) (h' : v' = .int .i64 ((k : Int) + 1)) (hk : k < N) : N - (RowKit.intOf v').toNat < N - (RowKit.intOf v).toNat := by
 subst h; subst h'
 simp only [RowKit.intOf]
 omega
theorem EI {α : Type} {l : List α} {k : Nat} {p : α} {f : α → Bool} (hp : l[k]? = some p) (hn : (l.take k).find? f = none) (hf : f p = false) : (l.take (k + 1)).find? f = none := by
 rw [List.take_add_one, hp, List.find?_append, hn]
 simp [hf]
theorem ade {α : Type} {l : List α} {k : Nat} {p : α} {f : α → Bool} (hp : l[k]? = some p) (hn : (l.take k).find? f = none) (hf : f p = true) : l.find? f = some p := by
 have hk : k < l.length := (List.getElem?_eq_some_iff.1 hp).1
 have e : l.take (k + 1) = l.take k ++ [p] := by rw [List.take_add_one, hp]; rfl
 rw [← List.take_append_drop (k + 1) l, e, List.find?_append, List.find?_append, hn]
 simp [hf]
theorem aJ {K : World → Prop} (h : ∀ w1, aB no w w1 → K w1) : ext w K := fun w' hw => h w' (Fr.of_below hw)
section
variable {T : World → World → Prop} {Q : Value → Prop}
theorem bI {s : Sem Value} {v : Value} (hr : ∀ w', T w w' → s.run P w' = .ok v w') (h : Q v) : bJ T w (fun w K => bi (s.run P w) aZ K) Q :=
 ⟨v, fun w' hw => ak (hr w' hw) ⟨rfl, RowKit.Below.refl _ _⟩, h⟩
theorem lW {s : Sem Value} {p : Prop} [Decidable p] (hr : ∀ w', T w w' → s.run P w' = .ok (.bool (decide p)) w') (ht : p → Q (.bool true)) (hf : ¬ p → Q (.bool false)) : bJ T w (fun w K => bi (s.run P w) aZ K) Q :=
 bI hr (by by_cases hp : p; rw [decide_eq_true hp]; exact ht hp; rw [decide_eq_false hp]; exact hf hp)
theorem gQ {f : FuncId} {args : Array Value} {v : Value} (hc : ∀ w', T w w' → Calls P f args w' fun e w'' => e = .returned v ∧ aB no w' w'') (h : Q v) : bJ T w (fun w K => lh P f args w aZ K) Q :=
 ⟨v, fun w' hw => aA (hc w' hw) fun w'' u => ⟨rfl, u.below⟩, h⟩
theorem Tm {f : FuncId} {args : Array Value} {b : Bool} (hc : ∀ w', T w w' → Calls P f args w' fun e w'' => e = .returned (.bool b) ∧ aB no w' w'') (ht : b = true → Q (.bool true)) (hf : b = false → Q (.bool false)) : bJ T w (fun w K => lh P f args w aZ K) Q :=
 gQ hc (by cases b; exact hf rfl; exact ht rfl)
theorem mJ {op : World → (Value → World → Prop) → Prop} (h : bJ T w op Q) : bJ T w (fun w K => gd (.bool true) true (fun K => op w K) w K) Q := h
theorem eX {op : World → (Value → World → Prop) → Prop} (h : bJ T w op Q) : bJ T w (fun w K => gd (.bool false) false (fun K => op w K) w K) Q := h
theorem IM {op : World → (Value → World → Prop) → Prop} {v : Value} (hs : ∀ w K, op w K = K v w) (h : Q v) : bJ T w op Q := ⟨v, fun w' _ => by rw [hs]; exact ⟨rfl, RowKit.Below.refl _ _⟩, h⟩
theorem jv {op : World → (Value → World → Prop) → Prop} (h : Q undef) : bJ T w (fun w K => gd (.bool true) false (fun K => op w K) w K) Q := IM (fun _ _ => rfl) h
theorem lD {op : World → (Value → World → Prop) → Prop} (h : Q undef) : bJ T w (fun w K => gd (.bool false) true (fun K => op w K) w K) Q := IM (fun _ _ => rfl) h
theorem aac {want : Bool} {op : World → (Value → World → Prop) → Prop} (h : Q undef) : bJ T w (fun w K => gd undef want (fun K => op w K) w K) Q := IM (fun _ _ => rfl) h
theorem mr {a b : Value} (h : Q a) : bJ T w (fun w K => pick (.bool true) a b w K) Q := IM (fun _ _ => rfl) h
theorem jL {a b : Value} (h : Q b) : bJ T w (fun w K => pick (.bool false) a b w K) Q := IM (fun _ _ => rfl) h
theorem fM {a : Addr} (h : Q (.pointer (some a))) : bJ T w (fun w K => df (.pointer (some a)) w K) Q := IM (fun _ _ => rfl) h
theorem lQ {x : Value} (h : Q x) : bJ T w (fun w K => K x w) Q := IM (fun _ _ => rfl) h
end
def Zo (P : Program) (t : TypeId) : Option (Nat × Nat × Nat) := match P.underlying t with
 | some (.slice e) => (match P.info? e with
  | some i => (match i.zero with
   | some z => (match Nat.beq z.cells.size i.size, i.size with | true, _ + 1 => some (e, i.size, i.bytes) | _, _ => none)
   | none => none)
  | none => none)
 | _ => none
def Own (B : Nat) (w : World) (e size : Nat) (v : Value) (xs : List Value) : Prop := ∃ n, w.ownsRow B e size v n xs
def aG (v : Value) : Nat → Prop := fun k => some k = v.ownBlock
theorem Own.ge {B : Nat} {w : World} {e size : Nat} {v : Value} {xs : List Value} (h : Own B w e size v xs) {k : Nat} (hk : aG v k) : B ≤ k ∧ k < w.heap.size := by
 obtain ⟨n, _, h⟩ := h
 rcases h with ⟨rfl, _⟩ | ⟨g, cap, cur, rfl, hb, hg, _⟩
 ·cases hk
 ·cases hk; exact ⟨hb, aj hg⟩
theorem Own.mono {B B' : Nat} {w : World} {e size : Nat} {v : Value} {xs : List Value} (h : Own B w e size v xs) (hB : B' ≤ B) : Own B' w e size v xs := by
 obtain ⟨n, hl, h⟩ := h
 refine ⟨n, hl, h.imp_right ?_⟩
 rintro ⟨g, cap, cur, rfl, hb, r⟩
 exact ⟨g, cap, cur, rfl, Nat.le_trans hB hb, r⟩
theorem Own.dO {S : Nat → Prop} {B : Nat} {w w' : World} {e size : Nat} {v : Value} {xs : List Value} (h : Own B w e size v xs) (u : aB S w w') (hs : ∀ k, aG v k → ¬ S k) : Own B w' e size v xs := by
 obtain ⟨n, hl, h⟩ := h
 refine ⟨n, hl, h.imp_right ?_⟩
 rintro ⟨g, cap, cur, rfl, hb, hg, r⟩
 exact ⟨g, cap, cur, rfl, hb, u.get hg (hs g rfl), r⟩
theorem Own.ai {B : Nat} {w w' : World} {e size : Nat} {v : Value} {xs : List Value} (h : Own B w e size v xs) (u : aB no w w') : Own B w' e size v xs := h.dO u (fun _ _ => id)
theorem Own.aF {B b : Nat} {w w' : World} {e size : Nat} {v : Value} {xs : List Value} (h : Own B w e size v xs) (u : aB (· = b) w w') (hs : ∀ k, aG v k → k ≠ b) : Own B w' e size v xs := h.dO u hs
theorem Own.apart {B : Nat} {w : World} {e size : Nat} {v : Value} {xs : List Value} (h : Own B w e size v xs) {b : Nat} (hb : b = w.heap.size) : ∀ k, aG v k → k ≠ b := fun k hk => by have := (h.ge hk).2; omega
theorem Own.nil (B : Nat) (w : World) (e size : Nat) : Own B w e size (.slice none 0 0) [] := ⟨0, by simp, .inl ⟨rfl, rfl⟩⟩
theorem Own.of_block {B : Nat} {w : World} {e size g n : Nat} {xs : List Value} (hg : w.heap[g]? = some (.cells xs.toArray e (0, 0))) (hB : B ≤ g) (hn : xs.length = n * size) (hm : n ≤ maxLen) : Own B w e size (.slice (some ⟨g, 0, none⟩) n n) xs :=
 ⟨n, hn, .inr ⟨g, n, _, rfl, hB, hg, Nat.le_refl _, hm, by simpa using hn, by rw [← hn]; simp⟩⟩
theorem Own.rd {B : Nat} {w : World} {e size : Nat} {v : Value} {xs : List Value} (h : Own B w e size v xs) : ∃ A len cap, v = .slice A len cap ∧ xs.length = len * size ∧ Rd w A xs := by
 obtain ⟨n, hl, h⟩ := h
 rcases h with ⟨rfl, rfl⟩ | ⟨g, cap, cur, rfl, hb, hg, hc, hm, hs, ht⟩
 ·exact ⟨none, 0, 0, rfl, hl, .inl (List.length_eq_zero_iff.1 (by simpa using hl))⟩
 ·exact ⟨_, n, cap, rfl, hl, by rw [← ht]; exact (Rd.of_block hg).take _⟩
theorem aep {t ty e size bytes : Nat} {B m c : Nat} {v : Value} {A : Option Addr} {xs news : List Value} (ht : Zo P t = some (e, size, bytes)) (hown : Own B w e size v xs) (hr : Rd w A news) (hl : news.length = m * size)
  (h1 : ∀ u ∈ news, u.oneCell' = true) (hbytes : (xs.length + news.length) * (bytes + 1) ≤ 140737488355328) (hB : B ≤ w.heap.size)
  (h : ∀ v' w', Own B w' e size v' (xs ++ news) → aB (aG v) w w' → K v' w') : bi ((Builtin.append_ #[t, t] ty #[v, .slice A m c]).run P w) R K := by
 unfold Zo at ht
 split at ht
 ·rename_i e' hu
  split at ht
  ·rename_i i hi
   split at ht
   ·rename_i z hz
    split at ht
    ·rename_i s' hzs hsz
     cases ht
     obtain ⟨n, hown⟩ := hown
     have hzs := Nat.eq_of_beq_eq_true hzs
     have hpos : 0 < i.size := by omega
     have hxl := hown.1
     have hxn : n ≤ xs.length := by rw [hxl]; exact Nat.le_mul_of_pos_right _ hpos
     have hmn : m ≤ news.length := by rw [hl]; exact Nat.le_mul_of_pos_right _ hpos
     have hsum : n + m ≤ xs.length + news.length := by omega
     have hb1 : (n + m) * i.bytes ≤ (xs.length + news.length) * (i.bytes + 1) := Nat.mul_le_mul hsum (by omega)
     have hb2 : (n + m) * 1 ≤ (xs.length + news.length) * (i.bytes + 1) := Nat.mul_le_mul hsum (by omega)
     rw [Nat.mul_one] at hb2
     have key : ∃ v' w', (Builtin.append_ #[t, t] ty #[v, .slice A m c]).run P w = .ok v' w' ∧ w'.ownsRow B e i.size v' (n + m) (xs ++ news) ∧ w.grownBy w' v.ownBlock := by
      cases A with
      | some a =>
       have hnews : ∀ j u, news[j]? = some u → w.cell? (a.add j) = some u := by
        intro j u hj
        rcases hr with rfl | ⟨a', ha, hc⟩
        ·simp at hj
        ·cases ha
         rw [hc j (by have := List.getElem?_eq_some_iff.1 hj; exact this.1)]; exact hj
       obtain ⟨v', w', r1, r2, r3, _⟩ := run_append_own (P := P) w B t ty e i z i.size i.bytes hu hi hz rfl rfl hzs hpos v n xs hown a m c news hl hnews h1 (by simp only [maxLen]; omega) (by omega) hB
       exact ⟨v', w', r1, r2, r3⟩
      | none =>
       have hn0 : news = [] := by
        rcases hr with h | ⟨a', ha, _⟩
        ·exact h
        ·cases ha
       subst hn0
       have hm0 : m = 0 := by
        rcases Nat.eq_zero_or_pos m with h | h
        ·exact h
        ·have := Nat.mul_pos h hpos; simp at hl; omega
       subst hm0
       refine ⟨v, w, ?_, by simpa using hown, ⟨rfl, rfl, rfl, Nat.le_refl _, fun k _ _ => rfl⟩⟩
       rcases hown.2 with ⟨rfl, rfl⟩ | ⟨g, cap, cur, rfl, hb, hg, hc, hm, hs, hta⟩
       ·simp [Builtin.append_, Sem.run_bind, Result.andThen, run_underlying hu, sizeOf, typeInfo, hi, Builtin.lenOf, Builtin.firstCells]
       ·simp [Builtin.append_, Sem.run_bind, Result.andThen, run_underlying hu, sizeOf, typeInfo, hi, Builtin.lenOf, Builtin.firstCells, hc, storeCells]
     obtain ⟨v', w', r1, r2, r3⟩ := key
     refine ak r1 (h v' w' ⟨_, r2⟩ ⟨r3.os, r3.tape, r3.output, r3.size, fun k hk hs => r3.block k hk (fun e => hs e)⟩)
    ·cases ht
   ·cases ht
  ·cases ht
 ·cases ht
theorem Ak {p q : Prop} [Decidable p] [Decidable q] (h : p ↔ q) : Ending.returned (.bool (decide p)) = .returned (.bool (decide q)) := by
 by_cases hp : p
 ·rw [decide_eq_true hp, decide_eq_true (h.1 hp)]
 ·rw [decide_eq_false hp, decide_eq_false (fun hq => hp (h.2 hq))]
theorem NM {q : Prop} [Decidable q] (h : q) : Ending.returned (.bool true) = .returned (.bool (decide q)) := by rw [decide_eq_true h]
theorem NU {q : Prop} [Decidable q] (h : ¬ q) : Ending.returned (.bool false) = .returned (.bool (decide q)) := by rw [decide_eq_false h]
theorem oO {k : IntKind} {a b : Int} (h : a = b) : Ending.returned (.int k a) = .returned (.int k b) := by rw [h]
def JX (l : List (Int × Int)) : List Value := l.flatMap fun p => [.int .u8 p.1, .int .u8 p.2]
theorem aar (l : List (Int × Int)) : (JX l).length = l.length * 2 := by
 induction l with
 | nil => rfl
 | cons p l ih =>
  have : JX (p :: l) = .int .u8 p.1 :: .int .u8 p.2 :: JX l := rfl
  rw [this]; simp [ih]; omega
theorem alj (l : List (Int × Int)) (i : Nat) (p : Int × Int) (h : l[i]? = some p) : ((JX l).drop (i * 2)).take 2 = [.int .u8 p.1, .int .u8 p.2] := by
 induction l generalizing i with
 | nil => simp at h
 | cons q l ih =>
  have hp : JX (q :: l) = .int .u8 q.1 :: .int .u8 q.2 :: JX l := rfl
  cases i with
  | zero => simp at h; subst h; rw [hp]; simp
  | succ i =>
   have := ih i (by simpa using h)
   rw [hp, show (i + 1) * 2 = i * 2 + 1 + 1 from by omega]
   simpa using this
theorem Oh (l : List UInt8) : (⟨l.toArray⟩ : ByteArray).size = l.length := by simp [ByteArray.size]
theorem Q4 {t : TypeId} {x y : ByteArray} (h : x.size + y.size ≤ 9223372036854775807) : (binOp .add t (.string x) (.string y)).run P w = .ok (.string (x ++ y)) w := by
 simp [go_sem, binOp, h]
theorem PW {s t : TypeId} {k : IntKind} {n : Int} (hs : (Aj P s).isSome = true) (ht : isStr P t = true) : (convert s t (.int k n)).run P w = .ok (.string (Utf8.encode n)) w := by
 unfold Aj at hs
 unfold isStr at ht
 split at hs
 ·rename_i k1 h1
  split at ht
  ·rename_i h2
   simp [convert, Sem.run_bind, Result.andThen, run_underlying h1, run_underlying h2, Conv.intToString]
  ·cases ht
 ·cases hs
theorem Own.bK {B : Nat} {w : World} {e : Nat} {v : Value} {k : IntKind} {xs : List Int} (h : Own B w e 1 v (vals k xs)) : ∃ A c, v = .slice A xs.length c ∧ Rd w A (vals k xs) := by
 obtain ⟨A, len, cap, hv, hl, hr⟩ := h.rd
 rw [vals_length] at hl
 exact ⟨A, cap, by rw [hv]; congr 1; omega, hr⟩
theorem NW {B : Nat} {w : World} {e : Nat} {v : Value} {K : IntKind} {xs : List Int} {x : Int} (h : Own B w e 1 v (vals K xs ++ [.int K x])) : Own B w e 1 v (vals K (xs ++ [x])) := by
 simpa [vals] using h
def b2s (xs : List Int) : ByteArray := ⟨(xs.map fun n => UInt8.ofNat n.toNat).toArray⟩
theorem acB (ns : List Int) (r : ByteArray) : (ns.foldl (fun r n => r.push (UInt8.ofNat n.toNat)) r).data.toList = r.data.toList ++ ns.map fun n => UInt8.ofNat n.toNat := by
 induction ns generalizing r with
 | nil => simp
 | cons n ns ih => rw [List.foldl_cons, ih]; simp
theorem Xd {s t e len cap : Nat} {A : Option Addr} {xs : List Int} (hs : P.underlying s = some (.slice e)) (he : P.underlying e = some (.int .u8)) (ht : P.underlying t = some .string) (hr : Rd w A (vals .u8 xs)) (hl : len = xs.length) :
  (convert s t (.slice A len cap)).run P w = .ok (.string (b2s xs)) w := by
 rw [run_convert_bytes_string w s t e A len cap hs he ht]
 subst hl
 cases A with
 | none =>
  have : xs = [] := by
   rcases hr with h | ⟨a, ha, _⟩
   ·have := congrArg List.length h; rw [vals_length] at this; exact List.length_eq_zero_iff.1 (by simpa using this)
   ·cases ha
  subst this
  rfl
 | some a =>
  have hcell : ∀ j, j < xs.length → w.cell? (a.add j) = some (.int .u8 (xs.getD j 0)) := by
   intro j hj
   rcases hr with h | ⟨a', ha, hc⟩
   ·have := congrArg List.length h; rw [vals_length] at this; simp at this; subst this; simp at hj
   ·cases ha
    rw [hc j (by rw [vals_length]; exact hj), Mc (List.getElem?_eq_getElem hj)]
    simp [List.getD, List.getElem?_eq_getElem hj]
  have hlc := run_loadCells (P := P) w a xs.length (fun j => .int .u8 (xs.getD j 0)) hcell
  have hm : ((List.range xs.length).map fun j => Value.int .u8 (xs.getD j 0)).toArray = (xs.map (Value.int .u8)).toArray := by
   congr 1
   apply List.ext_getElem
   ·simp
   ·intro j h1 h2
    simp at h2
    simp [List.getD, List.getElem?_eq_getElem h2]
  rw [hm] at hlc
  rw [run_bytesToString w a xs.length cap xs hlc]
  congr 2
  rw [KR, acB]
  simp [b2s]
def uz (w : World) (k : IntKind) (b : Nat) (l : List (Int × Value)) : Prop := ∃ es c, w.heap[b]? = some (.map es c) ∧ es.toList.map (fun e => (e.key, e.val)) = l.map fun p => (Value.int k p.1, p.2)
theorem uz.dO {S : Nat → Prop} {w w' : World} {k : IntKind} {b : Nat} {l : List (Int × Value)} (h : uz w k b l) (u : aB S w w') (hs : ¬ S b) : uz w' k b l := by
 obtain ⟨es, c, hb, he⟩ := h
 exact ⟨es, c, u.get hb hs, he⟩
theorem uz.ai {w w' : World} {k : IntKind} {b : Nat} {l : List (Int × Value)} (h : uz w k b l) (u : aB no w w') : uz w' k b l := h.dO u id
theorem uz.aF {g : Nat} {w w' : World} {k : IntKind} {b : Nat} {l : List (Int × Value)} (h : uz w k b l) (u : aB (· = g) w w') (hs : b ≠ g) : uz w' k b l := h.dO u hs
theorem uz.lt {w : World} {k : IntKind} {b : Nat} {l : List (Int × Value)} (h : uz w k b l) : b < w.heap.size := by obtain ⟨es, c, hb, _⟩ := h; exact aj hb
theorem uz.apart {w : World} {k : IntKind} {b : Nat} {l : List (Int × Value)} (h : uz w k b l) {g : Nat} (hg : g = w.heap.size) : b ≠ g := by have := h.lt; omega
end Go.Sh
end
section
namespace Go.Sh
open Go
variable {P : Program} {R : Ending → World → Prop} {K : Value → World → Prop} {w : World}
structure Enc {α : Type} (f : α → List Value) (m : Nat) : Prop where
 len : ∀ a, (f a).length = m
 one : ∀ a, ∀ u ∈ f a, u.oneCell' = true
 pos : 0 < m
def rows {α : Type} (f : α → List Value) (l : List α) : List Value := l.flatMap f
section rows
variable {α : Type} {f : α → List Value} {m : Nat} {l k : List α}
theorem xx (a : α) : rows f (a :: l) = f a ++ rows f l := rfl
theorem vH : rows f l ++ rows f k = rows f (l ++ k) := by simp [rows]
theorem iQ (hf : Enc f m) (l : List α) : (rows f l).length = l.length * m := by
 induction l with
 | nil => simp [rows]
 | cons a l ih => rw [xx, List.length_append, ih, hf.len, List.length_cons, Nat.add_mul]; omega
theorem DK (hf : Enc f m) (l : List α) : ∀ u ∈ rows f l, u.oneCell' = true := by
 intro u hu
 obtain ⟨a, _, ha⟩ := List.mem_flatMap.1 hu
 exact hf.one a u ha
theorem aeH (hf : Enc f m) (l : List α) (n : Nat) : (rows f l).take (n * m) = rows f (l.take n) := by
 induction l generalizing n with
 | nil => simp [rows]
 | cons a l ih =>
  cases n with
  | zero => simp [rows]
  | succ n =>
   rw [xx, List.take_succ_cons, xx, ← ih n, List.take_append, hf.len]
   have : (n + 1) * m - m = n * m := by rw [Nat.add_mul]; omega
   rw [this, List.take_of_length_le (by rw [hf.len, Nat.add_mul]; omega)]
theorem KG (hf : Enc f m) (l : List α) (n : Nat) : (rows f l).drop (n * m) = rows f (l.drop n) := by
 induction l generalizing n with
 | nil => simp [rows]
 | cons a l ih =>
  cases n with
  | zero => simp [rows]
  | succ n =>
   rw [xx, List.drop_succ_cons, ← ih n, List.drop_append, hf.len]
   have : (n + 1) * m - m = n * m := by rw [Nat.add_mul]; omega
   rw [this, List.drop_of_length_le (by rw [hf.len, Nat.add_mul]; omega), List.nil_append]
theorem Y6 (hf : Enc f m) {i : Nat} {x : α} (h : l[i]? = some x) : ((rows f l).drop (i * m)).take m = f x := by
 obtain ⟨hi, rfl⟩ := List.getElem?_eq_some_iff.1 h
 rw [KG hf, List.drop_eq_getElem_cons hi, xx, List.take_append, hf.len, Nat.sub_self, List.take_zero, List.append_nil, List.take_of_length_le (by rw [hf.len]; exact Nat.le_refl _)]
theorem agN (hf : Enc f m) {i : Nat} (hi : i < l.length) (x : α) : (rows f l).take (i * m) ++ f x ++ (rows f l).drop (i * m + m) = rows f (l.set i x) := by
 have e : i * m + m = (i + 1) * m := by rw [Nat.add_mul, Nat.one_mul]
 rw [e, aeH hf, KG hf, List.set_eq_take_append_cons_drop, if_pos hi, ← vH, xx, List.append_assoc]
theorem tK {t T len cap : Nat} {k : IntKind} {i : Int} {A : Option Addr} (hf : Enc f m) (hn : yR P t = some m) (hT : DD P T = some m) (hr : Rd w A (rows f l)) (hl : len = l.length) (h0 : 0 ≤ i) (h1 : i < len)
  (h : ∀ x, l[i.toNat]? = some x → K (.agg (f x).toArray) w) : bi ((Instr.indexAt t (.slice A len cap) (.int k i)).run P w) R fun a w => bi ((Instr.loadAt T a).run P w) R K := by
 have hi : i.toNat < l.length := by omega
 have hx : l[i.toNat]? = some l[i.toNat] := List.getElem?_eq_getElem hi
 exact Sm hn hT hr hf.pos (by rw [iQ hf, hl]) h0 h1 (Y6 hf hx) (h _ hx)
end rows
theorem Own.at {B : Nat} {w : World} {e size n c : Nat} {A : Option Addr} {xs : List Value} (h : Own B w e size (.slice A n c) xs) (hn : 0 < xs.length) :
  ∃ g, A = some ⟨g, 0, none⟩ ∧ B ≤ g ∧ xs.length = n * size ∧ ∃ cur, w.heap[g]? = some (.cells cur e (0, 0)) ∧ n ≤ c ∧ cur.size = c * size ∧ cur.toList.take (n * size) = xs := by
 obtain ⟨n', hl, h⟩ := h
 rcases h with ⟨hv, rfl⟩ | ⟨g, cap, cur, hv, hb, hg, hc, hm, hs, ht⟩
 ·cases hv; simp at hl; subst hl; simp at hn
 ·cases hv; exact ⟨g, rfl, hb, hl, cur, hg, hc, hs, ht⟩
theorem Own.xW {B : Nat} {w : World} {e size n c : Nat} {A : Option Addr} {xs : List Value} (h : Own B w e size (.slice A n c) xs) : Rd w A xs := by
 obtain ⟨A', len, cap, hv, hl, hr⟩ := h.rd
 cases hv; exact hr
theorem Own.open {B : Nat} {w : World} {e m : Nat} {v : Value} {α : Type} {f : α → List Value} {l : List α} (hf : Enc f m) (h : Own B w e m v (rows f l)) : ∃ A c, v = .slice A l.length c := by
 obtain ⟨A, len, cap, hv, hl, _⟩ := h.rd
 rw [iQ hf] at hl
 exact ⟨A, cap, by rw [hv, Nat.eq_of_mul_eq_mul_right hf.pos hl]⟩
theorem Own.lt {B : Nat} {w : World} {e size : Nat} {v : Value} {xs : List Value} (h : Own B w e size v xs) : ∀ k, aG v k → k < w.heap.size := fun k hk => (h.ge hk).2
theorem Own.Ll {B : Nat} {w : World} {e size n c : Nat} {A : Option Addr} {xs : List Value} (h : Own B w e size (.slice A n c) xs) : n ≤ c := by
 obtain ⟨n', _, h' | ⟨g, cap, cur, hv, _, _, hc, _⟩⟩ := h
 ·cases h'.1; exact Nat.le_refl _
 ·cases hv; exact hc
theorem Own.MQ {B : Nat} {w : World} {e size n c : Nat} {A : Option Addr} {xs : List Value} (h : Own B w e size (.slice A n c) xs) : ∀ k, fC A k → B ≤ k ∧ k < w.heap.size := by
 rintro k ⟨a, rfl, rfl⟩
 exact h.ge (k := a.block) rfl
theorem Rd.isSome {w : World} {A : Option Addr} {xs : List Value} (h : Rd w A xs) (hx : 0 < xs.length) : ∃ a, A = some a := by
 rcases h with rfl | ⟨a, rfl, _⟩
 ·simp at hx
 ·exact ⟨a, rfl⟩
theorem Own.aT {B : Nat} {w : World} {e size : Nat} {v : Value} {xs : List Value} {b : Nat} {cs : Array Value} {T : TypeId} {fr : Nat × Nat} (h : Own B w e size v xs) (hb : w.heap[b]? = some (.cells cs T fr)) (hT : e ≠ T) : ∀ k, aG v k → k ≠ b := by
 intro k hk e'
 subst e'
 obtain ⟨n, _, h' | ⟨g, cap, cur, hv, _, hg, _⟩⟩ := h
 ·rw [h'.1] at hk; cases hk
 ·rw [hv] at hk; cases hk; rw [hb] at hg; cases hg; exact hT rfl
theorem dQ {w : World} {b b' : Nat} {cs cs' : Array Value} {T T' : TypeId} {fr fr' : Nat × Nat} (h : w.heap[b]? = some (.cells cs T fr)) (h' : w.heap[b']? = some (.cells cs' T' fr')) (hT : T ≠ T') : b ≠ b' := by
 intro e; subst e; rw [h] at h'; cases h'; exact hT rfl
theorem Own.jd {B : Nat} {w : World} {e size : Nat} {v : Value} {xs : List Value} {b : Nat} {o : Obj} (h : Own B w e size v xs) (hb : w.heap[b]? = some o) (ho : Ci o = true) : ∀ k, aG v k → k ≠ b := by
 intro k hk e'
 subst e'
 obtain ⟨n, _, h' | ⟨g, cap, cur, hv, _, hg, _⟩⟩ := h
 ·rw [h'.1] at hk; cases hk
 ·rw [hv] at hk; cases hk; rw [hb] at hg; cases hg; cases ho
theorem Own.lV {B : Nat} {w : World} {e size : Nat} {v : Value} {xs : List Value} {b : Nat} {d : Option (List Deferred)} (h : Own B w e size v xs) (hb : w.heap[b]? = some (.deferred d)) : ∀ k, aG v k → k ≠ b := by
 intro k hk e'
 subst e'
 obtain ⟨n, _, h' | ⟨g, cap, cur, hv, _, hg, _⟩⟩ := h
 ·rw [h'.1] at hk; cases hk
 ·rw [hv] at hk; cases hk; rw [hb] at hg; cases hg
theorem UI {w : World} {b b' : Nat} {cs : Array Value} {T : TypeId} {fr : Nat × Nat} {o : Obj} (h : w.heap[b]? = some (.cells cs T fr)) (h' : w.heap[b']? = some o) (ho : Ci o = true) : b ≠ b' := by
 intro e; subst e; rw [h] at h'; cases h'; cases ho
theorem MP {w : World} {b b' : Nat} {cs : Array Value} {T : TypeId} {fr : Nat × Nat} {d : Option (List Deferred)} (h : w.heap[b]? = some (.cells cs T fr)) (h' : w.heap[b']? = some (.deferred d)) : b ≠ b' := by
 intro e; subst e; rw [h] at h'; cases h'
theorem Tq {α : Type} {f : α → List Value} {t m g n c B e : Nat} {l : List α} {i : Int} {x : α} {fv : Array Value} (hf : Enc f m) (hn : aY P t = some m) (own : Own B w e m (.slice (some ⟨g, 0, none⟩) n c) (rows f l))
  (h0 : 0 ≤ i) (hi : i < l.length) (hv : fv = (f x).toArray)
  (h : ∀ w', Own B w' e m (.slice (some ⟨g, 0, none⟩) n c) (rows f (l.set i.toNat x)) → w'.heap.size = w.heap.size → aB (aG (.slice (some ⟨g, 0, none⟩) n c)) w w' → K undef w') :
  uw ((Instr.storeAt t (.pointer (some ⟨g, 0 + i.toNat * m, none⟩)) (.agg fv)).run P w) R K := by
 subst hv
 have hi' : i.toNat < l.length := by omega
 have hpos : 0 < (rows f l).length := by rw [iQ hf]; exact Nat.mul_pos (by omega) hf.pos
 obtain ⟨g', hg', hB, hl, cur, hcur, hnc, hcs, htk⟩ := own.at hpos
 cases hg'
 have hln : n = l.length := by rw [iQ hf] at hl; exact (Nat.eq_of_mul_eq_mul_right hf.pos hl).symm
 have hmm : c ≤ maxLen := by
  obtain ⟨n', _, h' | ⟨g2, cap, cur2, hv, _, hg, hc, hm, _⟩⟩ := own
  ·cases h'.1
  ·cases hv; exact hm
 have him : i.toNat * m + m ≤ n * m := by
  rw [hln]
  have : (i.toNat + 1) * m ≤ l.length * m := Nat.mul_le_mul_right m hi'
  rwa [Nat.add_mul, Nat.one_mul] at this
 have hcm : n * m ≤ c * m := Nat.mul_le_mul_right m hnc
 have hfx : (Value.agg (f x).toArray).cells = (f x).toArray := rfl
 refine iD (n := m) hn (by rw [hfx]; simp [hf.len]) (by rw [hfx, Array.all_eq_true']; intro u hu; exact hf.one x u (by simpa using hu)) hcur (by rw [hcs]; omega)
  (cs' := (cur.toList.take (i.toNat * m) ++ f x ++ cur.toList.drop (i.toNat * m + m)).toArray) (by rw [hfx, Nat.zero_add]) fun w' h1 h2 h3 => ?_
 refine h w' ⟨n, by rw [iQ hf, List.length_set, hln], .inr ⟨g, c, _, rfl, hB, h1, hnc, hmm, ?_, ?_⟩⟩ h2 (h3.mono (Nat.le_refl _) fun k _ hk => by cases hk; rfl)
 ·have hcl : cur.toList.length = c * m := by simpa using hcs
  have e3 : (cur.toList.take (i.toNat * m)).length = i.toNat * m := by rw [List.length_take, hcl]; omega
  rw [List.size_toArray, List.length_append, List.length_append, e3, hf.len, List.length_drop, hcl]
  omega
 ·have e1 : (cur.toList.take (i.toNat * m)) = (rows f l).take (i.toNat * m) := by
   rw [← htk, List.take_take, Nat.min_eq_left (by omega)]
  have e2 : (cur.toList.drop (i.toNat * m + m)).take (n * m - (i.toNat * m + m)) = (rows f l).drop (i.toNat * m + m) := by
   rw [← htk, List.drop_take]
  have l1 : ((rows f l).take (i.toNat * m)).length = i.toNat * m := by rw [List.length_take, iQ hf, ← hln]; omega
  show ((cur.toList.take (i.toNat * m) ++ f x ++ cur.toList.drop (i.toNat * m + m)).toArray.toList.take (n * m)) = _
  simp only []
  rw [← agN hf hi' x, e1, List.take_append, List.take_of_length_le (by rw [List.length_append, l1, hf.len]; omega), List.length_append, l1, hf.len, e2]
theorem jG {t ty e size bytes : Nat} {B m c : Nat} {v : Value} {A : Option Addr} {xs news : List Value} (ht : Zo P t = some (e, size, bytes)) (hown : Own B w e size v xs) (hr : Rd w A news) (hl : news.length = m * size)
  (h1 : ∀ u ∈ news, u.oneCell' = true) (hbytes : (xs.length + news.length) * (bytes + 1) ≤ 140737488355328) (hB : B ≤ w.heap.size)
  (h : ∀ v' w', Own B w' e size v' (xs ++ news) → (∀ k, aG v' k → aG v k ∨ w.heap.size ≤ k) → aB (aG v) w w' → K v' w') : bi ((Builtin.append_ #[t, t] ty #[v, .slice A m c]).run P w) R K := by
 unfold Zo at ht
 split at ht
 ·rename_i e' hu
  split at ht
  ·rename_i i hi
   split at ht
   ·rename_i z hz
    split at ht
    ·rename_i s' hzs hsz
     cases ht
     obtain ⟨n, hown⟩ := hown
     have hzs := Nat.eq_of_beq_eq_true hzs
     have hpos : 0 < i.size := by omega
     have hxl := hown.1
     have hxn : n ≤ xs.length := by rw [hxl]; exact Nat.le_mul_of_pos_right _ hpos
     have hmn : m ≤ news.length := by rw [hl]; exact Nat.le_mul_of_pos_right _ hpos
     have hsum : n + m ≤ xs.length + news.length := by omega
     have hb1 : (n + m) * i.bytes ≤ (xs.length + news.length) * (i.bytes + 1) := Nat.mul_le_mul hsum (by omega)
     have hb2 : (n + m) * 1 ≤ (xs.length + news.length) * (i.bytes + 1) := Nat.mul_le_mul hsum (by omega)
     rw [Nat.mul_one] at hb2
     have key : ∃ v' w', (Builtin.append_ #[t, t] ty #[v, .slice A m c]).run P w = .ok v' w' ∧ w'.ownsRow B e i.size v' (n + m) (xs ++ news) ∧ w.grownBy w' v.ownBlock ∧ (v'.ownBlock = v.ownBlock ∨ v'.ownBlock = some w.heap.size) := by
      cases A with
      | some a =>
       have hnews : ∀ j u, news[j]? = some u → w.cell? (a.add j) = some u := by
        intro j u hj
        rcases hr with rfl | ⟨a', ha, hc⟩
        ·simp at hj
        ·cases ha
         rw [hc j (by have := List.getElem?_eq_some_iff.1 hj; exact this.1)]; exact hj
       obtain ⟨v', w', r1, r2, r3, _, r5⟩ := run_append_own_at (P := P) w B t ty e i z i.size i.bytes hu hi hz rfl rfl hzs hpos v n xs hown a m c news hl hnews h1 (by simp only [maxLen]; omega) (by omega) hB
       exact ⟨v', w', r1, r2, r3, r5⟩
      | none =>
       have hn0 : news = [] := by
        rcases hr with h | ⟨a', ha, _⟩
        ·exact h
        ·cases ha
       subst hn0
       have hm0 : m = 0 := by
        rcases Nat.eq_zero_or_pos m with h | h
        ·exact h
        ·have := Nat.mul_pos h hpos; simp at hl; omega
       subst hm0
       refine ⟨v, w, ?_, by simpa using hown, ⟨rfl, rfl, rfl, Nat.le_refl _, fun k _ _ => rfl⟩, .inl rfl⟩
       rcases hown.2 with ⟨rfl, rfl⟩ | ⟨g, cap, cur, rfl, hb, hg, hc, hm, hs, hta⟩
       ·simp [Builtin.append_, Sem.run_bind, Result.andThen, run_underlying hu, sizeOf, typeInfo, hi, Builtin.lenOf, Builtin.firstCells]
       ·simp [Builtin.append_, Sem.run_bind, Result.andThen, run_underlying hu, sizeOf, typeInfo, hi, Builtin.lenOf, Builtin.firstCells, hc, storeCells]
     obtain ⟨v', w', r1, r2, r3, r5⟩ := key
     refine ak r1 (h v' w' ⟨_, r2⟩ (fun k hk => by
      rcases r5 with r5 | r5
      ·exact .inl (by have h0 : some k = v'.ownBlock := hk; show some k = v.ownBlock; rw [h0, r5])
      ·right; have h0 : some k = v'.ownBlock := hk; rw [r5] at h0; cases h0; exact Nat.le_refl _) ⟨r3.os, r3.tape, r3.output, r3.size, fun k hk hs => r3.block k hk (fun e => hs e)⟩)
    ·cases ht
   ·cases ht
  ·cases ht
 ·cases ht
theorem acj {S' : World} {v v' : Value} {A : Option Addr} {xs : List Value} (old : xs = [] ∨ ∀ k, fC A k → ¬ aG v k) (lt : Rd S' A xs) (hA : ∀ k, aG v' k → aG v k ∨ S'.heap.size ≤ k) : xs = [] ∨ ∀ k, fC A k → ¬ aG v' k := by
 rcases old with h | h
 ·exact .inl h
 ·rcases lt.lt with h2 | h2
  ·exact .inl h2
  ·exact .inr fun k hk hs => (hA k hs).elim (h k hk) (fun h3 => by have := h2 k hk; omega)
theorem yc {S' : World} {B e s : Nat} {u v v' : Value} {xs : List Value} (old : ∀ k, aG u k → ¬ aG v k) (ou : Own B S' e s u xs) (hA : ∀ k, aG v' k → aG v k ∨ S'.heap.size ≤ k) : ∀ k, aG u k → ¬ aG v' k :=
 fun k hk hs => (hA k hs).elim (old k hk) (fun h3 => by have := (ou.ge hk).2; omega)
theorem BG {S' : World} {v v' : Value} {b : Nat} {o : Obj} (old : ¬ aG v b) (hb : S'.heap[b]? = some o) (hA : ∀ k, aG v' k → aG v k ∨ S'.heap.size ≤ k) : ¬ aG v' b :=
 fun hs => (hA b hs).elim old (fun h3 => by have := aj hb; omega)
theorem Zw (t : TypeId) (k : IntKind) {x y : Int} (h : 0 < y) (hk : k.wrap (x.tmod y) = x.tmod y) : (binOp .rem t (.int k x) (.int k y)).run P w = .ok (.int k (x.tmod y)) w := by
 have : ¬ y = 0 := by omega
 simp [go_sem, binOp, Op.intDiv, this, hk]
theorem alk (t : TypeId) {x y : Int} (hx : 0 ≤ x) (hx2 : x ≤ 9223372036854775807) (h : 0 < y) : (binOp .rem t (.int .i64 x) (.int .i64 y)).run P w = .ok (.int .i64 (x % y)) w := by
 have e : x.tmod y = x % y := Int.tmod_eq_emod_of_nonneg hx
 have h1 := Int.emod_nonneg x (by omega : y ≠ 0)
 have h2 : x % y ≤ x := by
  have hd := Int.mul_nonneg (Int.le_of_lt h) (Int.ediv_nonneg hx (Int.le_of_lt h))
  have := Int.emod_def x y
  omega
 rw [Zw t .i64 h (by rw [e]; exact wrap_i64 (by omega) (by omega)), e]
theorem Vx (t : TypeId) {x y : Int} (h : 0 < y) (h2 : y ≤ 9223372036854775807) : (binOp .rem t (.int .i64 x) (.int .i64 y)).run P w = .ok (.int .i64 (x.tmod y)) w := by
 have h3 := Int.tmod_lt_of_pos x h
 have h4 : -y < x.tmod y := Int.lt_tmod_of_pos x h
 exact Zw t .i64 h (wrap_i64 (by omega) (by omega))
theorem alA (ts : Array TypeId) (t : TypeId) (k : IntKind) (x y : Int) : (Builtin.min_ ts t #[.int k x, .int k y]).run P w = .ok (.int k (min x y)) w := Lib.run_min_ints w ts t k k x y
theorem alz (ts : Array TypeId) (t : TypeId) (k : IntKind) (x y : Int) : (Builtin.max_ ts t #[.int k x, .int k y]).run P w = .ok (.int k (max x y)) w := Lib.run_max_ints w ts t k k x y
theorem Jw.upd {l : Nat} {w w' : World} (h : Jw l w w') : aB (· = l) w w' := by
 obtain ⟨o, rfl⟩ := h
 exact ⟨rfl, rfl, rfl, by simp, fun k _ hk => by simp only []; rw [Array.getElem?_setIfInBounds_ne (fun e => hk e.symm)]⟩
theorem Jw.size {l : Nat} {w w' : World} (h : Jw l w w') : w'.heap.size = w.heap.size := by obtain ⟨o, rfl⟩ := h; simp
theorem zu {l : Nat} {Rdy Bsy : Obj} {C : World → Prop} (hl : w.heap[l]? = some Rdy) (h : ∀ w', w'.heap[l]? = some Bsy → w'.heap.size = w.heap.size → aB (· = l) w w' → C w') : RH l Rdy Bsy C w :=
 ⟨hl, fun w' hc hb => h w' hb hc.size hc.upd⟩
section fin
variable {l : Nat} {Rdy Bsy : Obj} {Dn : Nat → Obj} {Q : Bool → World → Prop}
theorem uO (hl : w.heap[l]? = some Bsy) (h : ∀ w', w'.heap[l]? = some Rdy → w'.heap.size = w.heap.size → aB (· = l) w w' → Q true w') : OL l Rdy Bsy Dn Q .normal w :=
 ⟨hl, fun w' hc hb => h w' hb hc.size hc.upd⟩
theorem aqO (hl : w.heap[l]? = some Bsy) (h : ∀ w', w'.heap[l]? = some (Dn 0) → w'.heap.size = w.heap.size → aB (· = l) w w' → Q false w') : OL l Rdy Bsy Dn Q .ret w :=
 ⟨hl, fun w' hc hb => h w' hb hc.size hc.upd⟩
end fin
theorem wL {gf np : Nat} {first lb : Array Value} {Nw : Nat → List Value → World → ((World → Prop) → World → Prop) → (Exit → World → Prop) → Prop} {kn : Nat → World → Prop} {kx : List (Nat × (Nat → World → Prop))}
  (hok : Et P gf = true)
  (h : ∀ (w1 : World) (l D : Nat) (Rdy Bsy : Obj) (Dn : Nat → Obj) (y : Value), D = w.heap.size → l = D + 1 → w1.heap[D]? = some (.deferred (some [])) → w1.heap[l]? = some Rdy → Ci Rdy = true → Ci Bsy = true → (∀ i, Ci (Dn i) = true) →
   w1.heap.size = D + 2 → aB no w w1 →
   (∀ xs w2 (Q : Bool → World → Prop), xs.length = np → w2.heap[l]? = some Rdy → Nw l xs w2 (RH l Rdy Bsy) (OL l Rdy Bsy Dn Q) →
    vG P y xs.toArray w2 fun e w' => match e with | .returned (.bool b) => Q b w' | _ => False) →
   Calls P gf (first ++ #[y] ++ lb) w1 fun e w2 => (∃ v, e = .returned v) ∧
    ((w2.heap[l]? = some Rdy ∧ ∀ w3, w3.heap.size = w2.heap.size → aB (· = l) w2 w3 → kn D w3) ∨ ∃ i k, (i, k) ∈ kx ∧ w2.heap[l]? = some (Dn i) ∧ ∀ w3, w3.heap.size = w2.heap.size → aB (· = l) w2 w3 → k D w3)) :
  wV P (.func (.func gf) first lb) np w Nw kn kx := by
 refine ⟨hok, fun w1 l D Rdy Bsy Dn y hD hl hb hs hd hr h1 h2 h3 hy => ?_⟩
 refine (h w1 l D Rdy Bsy Dn y hD hl hd hr h1 h2 h3 hs (Fr.of_below hb) hy).mono ?_
 rintro e w2 ⟨hv, h4 | ⟨i, k, hm, h5, h6⟩⟩
 ·exact ⟨hv, .inl ⟨h4.1, fun w3 hc => h4.2 w3 hc.size hc.upd⟩⟩
 ·exact ⟨hv, .inr ⟨i, k, hm, h5, fun w3 hc => h6 w3 hc.size hc.upd⟩⟩
theorem agI {gf np l0 : Nat} {first lb : Array Value} {Nw : Nat → List Value → World → ((World → Prop) → World → Prop) → (Exit → World → Prop) → Prop} {kn : World → Prop} {kx : List (Nat × (World → Prop))} {o0 : Obj}
  (hok : Et P gf = true) (h0 : w.heap[l0]? = some o0) (hb0 : Ci o0 = true)
  (h : ∀ (w1 : World) (l : Nat) (Rdy Bsy : Obj) (Dn : Nat → Obj) (y : Value), l = w.heap.size → w1.heap[l]? = some Rdy → Ci Rdy = true → Ci Bsy = true → (∀ i, Ci (Dn i) = true) →
   w1.heap.size = l + 1 → aB no w w1 →
   (∀ xs w2 (Q : Bool → World → Prop), xs.length = np → w2.heap[l]? = some Rdy → Nw l xs w2 (RH l Rdy Bsy) (OL l Rdy Bsy Dn Q) →
    vG P y xs.toArray w2 fun e w' => match e with | .returned (.bool b) => Q b w' | _ => False) →
   Calls P gf (first ++ #[y] ++ lb) w1 fun e w2 => (∃ v, e = .returned v) ∧
    ((w2.heap[l]? = some Rdy ∧ ∀ w3, w3.heap.size = w2.heap.size → aB (· = l) w2 w3 → kn w3) ∨ ∃ i k, (i, k) ∈ kx ∧ w2.heap[l]? = some (Dn i) ∧ ∀ w3, w3.heap.size = w2.heap.size → aB (· = l) w2 w3 → k w3)) :
  PL P (.func (.func gf) first lb) np l0 w Nw kn kx := by
 have hr0 : ∃ r0, w.heap[l0]? = some (.loop r0) := by
  cases o0 with
  | loop r => exact ⟨r, h0⟩
  | _ => cases hb0
 refine ⟨hok, hr0, fun w1 l Rdy Bsy Dn y hl hb hs hr h1 h2 h3 hy => ?_⟩
 refine (h w1 l Rdy Bsy Dn y hl hr h1 h2 h3 hs (Fr.of_below hb) hy).mono ?_
 rintro e w2 ⟨hv, h4 | ⟨i, k, hm, h5, h6⟩⟩
 ·exact ⟨hv, .inl ⟨h4.1, fun w3 hc => h4.2 w3 hc.size hc.upd⟩⟩
 ·exact ⟨hv, .inr ⟨i, k, hm, h5, fun w3 hc => h6 w3 hc.size hc.upd⟩⟩
theorem leave1 {D : Nat} {K : World → Prop} (h : w.heap[D]? = some (.deferred (some []))) (hk : ∀ w', w'.heap.size = w.heap.size → aB (· = D) w w' → K w') : mG (yX (mkV D undef)) w K := by
 rw [Zx]
 exact ⟨h, fun w' hc => hk w' hc.size hc.upd⟩
theorem vG.mono {f : Value} {args : Array Value} {R R' : Ending → World → Prop} (h : vG P f args w R) (hr : ∀ e w', R e w' → R' e w') : vG P f args w R' := by
 cases f with
 | func g first cap =>
  cases g with
  | func g => exact ⟨h.1, Calls.mono h.2 hr⟩
  | yield l =>
   obtain ⟨h1, h2, fn, tmps, asn, body, hy, h3⟩ := h
   exact ⟨h1, h2, fn, tmps, asn, body, hy, h3.mono hr⟩
  | _ => exact False.elim h
 | _ => exact False.elim h
def yQ (A B : World → Prop) : Bool → World → Prop
 | true => A
 | false => B
def Gy (P : Program) (y : Value) (args : Array Value) (w : World) (A B : World → Prop) : Prop := vG P y args w fun e w' => match e with | .returned (.bool b) => yQ A B b w' | _ => False
theorem Ig {f : Value} {args : Array Value} {A B : World → Prop} (hc : Gy P f args w A B) (ht : ∀ w', A w' → K (.bool true) w') (hf : ∀ w', B w' → K (.bool false) w') : CV P f args w R K := by
 refine vG.mono hc fun e w' he => ?_
 cases e with
 | returned v =>
  cases v with
  | bool b => cases b; exact hf w' he; exact ht w' he
  | _ => exact False.elim he
 | panicked c => exact False.elim he
 | outgrown => exact False.elim he
theorem am2 (S : Nat → Prop) : Moves (aB S) := ⟨fun w => Fr.refl _ _ _, fun {a b c} h k => h.go k (fun _ _ h => h), fun h => Fr.jq h⟩
theorem Fr.any {S : Nat → Prop} {B : Nat} {a b : World} (h : Fr no B a b) : Fr S B a b := h.mono (Nat.le_refl _) (fun _ _ h => h.elim)
theorem dV {S : Nat → Prop} {A : (World → World → Prop) → World → Prop} (h : ∀ w1, aB no w w1 → A (aB S) w1) : drawn w A := ⟨aB S, am2 S, h _ (aB.drawn w)⟩
theorem jy {T : World → World → Prop} {op : World → (Value → World → Prop) → Prop} (h : op w fun v w' => T w w' ∧ K v w') : zA T w op K := h
section
variable {T : World → World → Prop} {Q : Value → Prop}
theorem oH {t U len cap : Nat} {k k' : IntKind} {i : Int} {A : Option Addr} {xs : List Int} (hn : yR P t = some 1) (hT : yu P U = true) (hr : ∀ w', T w w' → Rd w' A (vals k xs)) (hw : T w w) (hl : len = xs.length) (h0 : 0 ≤ i) (h1 : i < len)
  (h : ∀ x, xs[i.toNat]? = some x → Q (.int k x)) : bJ T w (fun w K => bi ((Instr.indexAt t (.slice A len cap) (.int k' i)).run P w) aZ K) fun a => bJ T w (fun w K => bi ((Instr.loadAt U a).run P w) aZ K) Q := by
 have hi : i.toNat < xs.length := by omega
 have hx : xs[i.toNat]? = some xs[i.toNat] := List.getElem?_eq_getElem hi
 have hpos : 0 < (vals k xs).length := by rw [vals_length]; omega
 rcases hr w hw with he | ⟨a, rfl, _⟩
 ·rw [he] at hpos; simp at hpos
 ·refine bI (fun w' _ => OB (n := 1) hn h0 h1) (bI (fun w' hw' => KQ hT ?_) (h _ hx))
  rcases hr w' hw' with he | ⟨a', ha, hc⟩
  ·rw [he] at hpos; simp at hpos
  ·cases ha
   rw [Nat.mul_one, hc _ (by rw [vals_length]; omega)]
   exact Mc hx
theorem ack {s : Sem Value} {b : Bool} (hr : ∀ w', T w w' → s.run P w' = .ok (.bool b) w') (ht : b = true → Q (.bool true)) (hf : b = false → Q (.bool false)) : bJ T w (fun w K => bi (s.run P w) aZ K) Q :=
 bI hr (by cases b; exact hf rfl; exact ht rfl)
end
theorem oJ {r : Result Value} {b : Bool} {w' : World} (h : r = .ok (.bool b) w') (ht : b = true → K (.bool true) w') (hf : b = false → K (.bool false) w') : bi r R K := by
 rw [h]; cases b; exact hf rfl; exact ht rfl
theorem mkF (fn : Fn) (a b : Array Value) : (Instr.makeFunc fn a b).run P w = .ok (.func fn a b) w := rfl
theorem TI {α : Type} {f : α → List Value} (z : α) : ∀ n : Nat, fO (f z) n = rows f (List.replicate n z)
 | 0 => rfl
 | n + 1 => by rw [fO, List.replicate_succ, xx, TI z n]
theorem aeI {α : Type} {f : α → List Value} {m : Nat} (hf : Enc f m) (z : α) (N : Nat) : (madeCells (f z).toArray (N * m)).toList = rows f (List.replicate N z) := by
 have h := Zy (f z).toArray N
 have hm := hf.len z
 rw [← TI]
 rw [show (f z).toArray.size = m by simpa using hm] at h
 rw [← h]
 have hp := hf.pos
 by_cases h0 : N * m = 0
 ·rw [h0, if_pos rfl]; simp [OM, madeCells]
 ·rw [if_neg h0]; rfl
theorem agG {α : Type} {f : α → List Value} {m t e bytes : Nat} {z : α} {n : Int} {k : IntKind} (hf : Enc f m) (ht : Zo P t = some (e, m, bytes)) (hz : yE P e = some (f z).toArray) (h0 : 0 ≤ n) (hn : n * (bytes + 1) ≤ 16777216)
  (h : ∀ b w', b = w.heap.size → Own w.heap.size w' e m (.slice (some ⟨b, 0, none⟩) n.toNat n.toNat) (rows f (List.replicate n.toNat z)) → w'.heap.size = w.heap.size + 1 → aB no w w' → K (.slice (some ⟨b, 0, none⟩) n.toNat n.toNat) w') :
  bi ((Instr.makeSlice t (.int k n) (.int k n)).run P w) R K := by
 unfold Zo at ht
 split at ht
 ·rename_i e' hu
  split at ht
  ·rename_i i hi
   split at ht
   ·rename_i zz hzz
    split at ht
    ·rename_i s' hzs hsz
     cases ht
     have hzc : zz.cells = (f z).toArray := by
      unfold yE at hz
      simpa [hi, hzz] using hz
     have hb0 : (0 : Int) ≤ n * i.bytes := Int.mul_nonneg h0 (by omega)
     have hb1 : n * ((i.bytes : Int) + 1) = n * i.bytes + n := by rw [Int.mul_add, Int.mul_one]
     have hr := run_make (P := P) w t e i zz hu hi hzz k k n n h0 (Int.le_refl _) (by rw [Int.mul_comm]; omega) (by omega)
     refine ak hr (h _ _ rfl ?_ (by simp) ⟨rfl, rfl, rfl, by simp, fun k hk _ => RowKit.Below.heap_alloc w _ k hk⟩)
     rw [hzc]
     refine Own.of_block (n := n.toNat) ?_ (Nat.le_refl _) (by rw [iQ hf, List.length_replicate]) (by simp only [maxLen]; omega)
     rw [← aeI hf]
     simpa using World.alloc_heap_new w (.cells (madeCells (f z).toArray (n.toNat * i.size)) e)
    ·cases ht
   ·cases ht
  ·cases ht
 ·cases ht
theorem Rd.drop {w : World} {a : Addr} {xs : List Value} (h : Rd w (some a) xs) (n : Nat) : Rd w (some (a.add n)) (xs.drop n) := by
 rcases h with rfl | ⟨a', ha, r⟩
 ·left; simp
 ·cases ha
  refine .inr ⟨_, rfl, fun j hj => ?_⟩
  rw [List.length_drop] at hj
  rw [add_add, r _ (by omega), List.getElem?_drop]
theorem Xt {c : Bool} {t e : TypeId} {p : Option Addr} (h : P.underlying t = some (.pointer e)) : (qI c .eql t (.pointer p) (.pointer none)).run P w = .ok (.bool p.isNone) w := by
 have hp : P.pointee t = e := by simp [Program.pointee, h]
 have := run_eql_pointer_nil (P := P) w t p (by rw [hp]; exact h)
 cases c <;> simpa [qI, eqGuard, Sem.run_bind, Result.andThen] using this
theorem aoE {c : Bool} {t e n cp : Nat} {A : Option Addr} (h : P.underlying t = some (.slice e)) : (qI c .eql t (.slice A n cp) (.slice none 0 0)).run P w = .ok (.bool A.isNone) w := by
 have := Lib.run_eql_slice_nil (P := P) w t e A n cp 0 0 h
 cases c <;> simpa [qI, eqGuard, Sem.run_bind, Result.andThen] using this
end Go.Sh
end
section
namespace Go.Sh
open Go
section
variable {P : Program} {R : Ending → World → Prop} {K : Value → World → Prop} {w : World} {T' : World → World → Prop} {Q : Value → Prop}
theorem Z.f {t f b o : Nat} (off : Nat) (k : K (.pointer (some ⟨b, o + off, none⟩)) w) (h : acO P t f = some off := by kernel_rfl) : bi ((Instr.fieldAt t (.pointer (some ⟨b, o, none⟩)) f).run P w) R K := ak (qc h) k
theorem Z.g {t f b o : Nat} (off : Nat) (k : Q (.pointer (some ⟨b, o + off, none⟩))) (h : acO P t f = some off := by kernel_rfl) : bJ T' w (fun w K => bi ((Instr.fieldAt t (.pointer (some ⟨b, o, none⟩)) f).run P w) aZ K) Q := bI (fun _ _ => qc h) k
theorem Z.l {t b o : Nat} {cs : Array Value} {T : TypeId} {fr : Nat × Nat} {v : Value} (hb : w.heap[b]? = some (.cells cs T fr)) (k : K v w) (hv : cs[o]? = some v := by rfl) (hu : yu P t = true := by kernel_rfl) : bi ((Instr.loadAt t (.pointer (some ⟨b, o, none⟩))).run P w) R K := ak (kH hu hb hv) k
theorem Z.m {t b o : Nat} {cs : Array Value} {T : TypeId} {fr : Nat × Nat} {v : Value} (hb : w.heap[b]? = some (.cells cs T fr)) (k : Q v) (hv : cs[o]? = some v := by rfl) (hu : yu P t = true := by kernel_rfl) : bJ (aB no) w (fun w K => bi ((Instr.loadAt t (.pointer (some ⟨b, o, none⟩))).run P w) aZ K) Q := bI (fun _ hw' => kH hu (hw'.af hb) hv) k
theorem Z.e {vs : Array Value} {i : Nat} {v : Value} (k : K v w) (h : vs[i]? = some v := by rfl) : bi ((Instr.extract (.tuple vs) i).run P w) R K := ak (ET h) k
theorem Z.a {t b o : Nat} {T : TypeId} {fr : Nat × Nat} {cs cs' : Array Value} {K : Value → Prop} (n : Nat) (hb : w.heap[b]? = some (.cells cs T fr)) (k : K (.agg cs')) (hcs : cs.extract o (o + n) = cs' := by rfl) (hl : o + n ≤ cs.size := by exact Nat.le_of_ble_eq_true rfl) (hn : DD P t = some n := by kernel_rfl) : jo ((Instr.loadAt t (.pointer (some ⟨b, o, none⟩))).run P w) w K := Ap (CE hn hb hl hcs) k
theorem Z.b {t b o : Nat} {T : TypeId} {fr : Nat × Nat} {cs : Array Value} (n : Nat) (cs' : Array Value) (hb : w.heap[b]? = some (.cells cs T fr)) (k : K (.agg cs') w) (hcs : cs.extract o (o + n) = cs' := by rfl) (hl : o + n ≤ cs.size := by exact Nat.le_of_ble_eq_true rfl) (hn : DD P t = some n := by kernel_rfl) : bi ((Instr.loadAt t (.pointer (some ⟨b, o, none⟩))).run P w) R K := ak (CE hn hb hl hcs) k
theorem Z.n {t : TypeId} (cs : Array Value) (h : ∀ b w', b = w.heap.size → w'.heap[b]? = some (.cells cs t (0, 0)) → w'.heap.size = w.heap.size + 1 → aB no w w' → K (.pointer (some ⟨b, 0, none⟩)) w') (hz : yE P t = some cs := by kernel_rfl) : bi ((Instr.alloc t true (.tuple #[])).run P w) R K := vI hz h
theorem Z.x {t : TypeId} {v : Value} (cs : Array Value) (h : ∀ b w', b = w.heap.size → w'.heap[b]? = some (.cells cs t (0, 0)) → w'.heap.size = w.heap.size + 1 → aB no w w' → K (.pointer (some ⟨b, 0, none⟩)) w') (hc : v.cells = cs := by rfl) : bi ((Instr.box t v).run P w) R K := aeQ hc h
theorem Z.s {t : TypeId} {v : Value} {b o : Nat} {T : TypeId} {xs xs' : List Value} (hb : w.heap[b]? = some (.cells xs.toArray T (0, 0))) (h : ∀ w', w'.heap[b]? = some (.cells xs'.toArray T (0, 0)) → w'.heap.size = w.heap.size → aB (· = b) w w' → K undef w')
  (hv : v.cells = #[v] := by rfl) (h1 : v.oneCell' = true := by rfl) (hx : xs.set o v = xs' := by simp [uN]; rfl) (hl : o < xs.length := by exact Nat.le_of_ble_eq_true rfl) (hn : aY P t = some 1 := by kernel_rfl) : uw ((Instr.storeAt t (.pointer (some ⟨b, o, none⟩)) v).run P w) R K := nH hn hv h1 hb hl hx h
theorem Z.t {t : TypeId} {v : Value} {b o : Nat} {T : TypeId} {cs : Array Value} (n : Nat) (cs' : Array Value) (h1 : v.cells.all (·.oneCell') = true) (hb : w.heap[b]? = some (.cells cs T (0, 0))) (h : ∀ w', w'.heap[b]? = some (.cells cs' T (0, 0)) → w'.heap.size = w.heap.size → aB (· = b) w w' → K undef w')
  (hv : v.cells.size = n := by rfl) (hcs : (cs.toList.take o ++ v.cells.toList ++ cs.toList.drop (o + n)).toArray = cs' := by rfl) (hl : o + n ≤ cs.size := by exact Nat.le_of_ble_eq_true rfl) (hn : aY P t = some n := by kernel_rfl) : uw ((Instr.storeAt t (.pointer (some ⟨b, o, none⟩)) v).run P w) R K := iD hn hv h1 hb hl hcs h
theorem Z.d {p : Prop} [Decidable p] : (decide p = true) = p := decide_eq_true_eq
theorem Z.c {p : Prop} [Decidable p] : (decide p = false) = ¬ p := propext decide_eq_false_iff_not
end
abbrev Z.i (x : Int) : Value := .int .i64 x
abbrev Z.u (x : Int) : Value := .int .u8 x
abbrev Z.p (b : Nat) : Value := .pointer (some ⟨b, 0, none⟩)
abbrev Z.h (w : World) (b : Nat) (cs : Array Value) (T : TypeId) : Prop := w.heap[b]? = some (.cells cs T (0, 0))
theorem Z.k {P : Program} {n : FuncId} {R : Ending → World → Prop} {w : World} {F : Prop} {args : List Value} (vs : List Nat) (h : F) (e : F = shF P n vs args R w := by kernel_rfl) : Calls P n args.toArray w R := aeV (e ▸ h)
end Go.Sh
namespace Go.Proofs.YtjdoakbadehicaaGreatDoor
open Go Go.Sh
abbrev oL (T : TypeId) (a : Value) (w : World) (R : Ending → World → Prop) (K : Value → World → Prop) : Prop := bi ((Instr.loadAt T a).run Tryz.prog w) R K
abbrev oF (T : TypeId) (a : Value) (i : Nat) (w : World) (R : Ending → World → Prop) (K : Value → World → Prop) : Prop := bi ((Instr.fieldAt T a i).run Tryz.prog w) R K
abbrev oG (T : TypeId) (a : Value) (i : Nat) (U : TypeId) (w : World) (R : Ending → World → Prop) (K : Value → World → Prop) : Prop := oF T a i w R fun b w => oL U b w R K
abbrev qG (T' : World → World → Prop) (w : World) (T : TypeId) (a : Value) (i : Nat) (U : TypeId) (K : Value → Prop) : Prop := bJ T' w (fun w K => oF T a i w aZ K) fun b => bJ T' w (fun w K => oL U b w aZ K) K
abbrev oX (f : FuncId) (l : Array Value) (w : World) (R : Ending → World → Prop) : Prop := Calls Tryz.prog f l w R
abbrev oE (a : Value) (i : Nat) (w : World) (R : Ending → World → Prop) (K : Value → World → Prop) : Prop := bi ((Instr.extract a i).run Tryz.prog w) R K
abbrev oA (T : TypeId) (w : World) (R : Ending → World → Prop) (K : Value → World → Prop) : Prop := bi ((Instr.alloc T true (.tuple #[])).run Tryz.prog w) R K
abbrev oS (T : TypeId) (a v : Value) (w : World) (R : Ending → World → Prop) (K : Value → World → Prop) : Prop := uw ((Instr.storeAt T a v).run Tryz.prog w) R K
abbrev oI (T : TypeId) (a i : Value) (w : World) (R : Ending → World → Prop) (K : Value → World → Prop) : Prop := bi ((Instr.indexAt T a i).run Tryz.prog w) R K
abbrev oB (T : TypeId) (a : Value) (w : World) (R : Ending → World → Prop) (K : Value → World → Prop) : Prop := bi ((Instr.box T a).run Tryz.prog w) R K
abbrev oN (T : TypeId) (a : Value) (w : World) (R : Ending → World → Prop) (K : Value → World → Prop) : Prop := bi ((Builtin.len_ #[T] 3 #[a]).run Tryz.prog w) R K
abbrev oP (o : BinOp) (T : TypeId) (a b : Value) (w : World) (R : Ending → World → Prop) (K : Value → World → Prop) : Prop := bi ((binOp o T a b).run Tryz.prog w) R K
abbrev oQ (c : Bool) (o : BinOp) (T : TypeId) (a b : Value) (w : World) (R : Ending → World → Prop) (K : Value → World → Prop) : Prop := bi ((qI c o T a b).run Tryz.prog w) R K
abbrev oU (a : Value) (w : World) (R : Ending → World → Prop) (K : Value → World → Prop) : Prop := bi ((Op.unary .not a).run Tryz.prog w) R K
abbrev oD (T : TypeId) (l : Array (Nat × Value)) (w : World) (R : Ending → World → Prop) (K : Value → World → Prop) : Prop := bi ((Instr.build T l).run Tryz.prog w) R K
abbrev oC (f : FuncId) (l : Array Value) (w : World) (R : Ending → World → Prop) (K : Value → World → Prop) : Prop := lh Tryz.prog f l w R K
section
variable (R : Ending → World → Prop) (w : World)
set_option maxRecDepth 100000
def F9 (a0 : Value) : Prop :=
 oC 40 #[a0] w R fun t4 w =>
 oQ true .neq 9 t4 (.string ⟨#[]⟩) w R fun t5 w =>
 R (.returned t5) w
theorem F9.calls {R w a0} : F9 R w a0 → oX 9 #[a0] w R := Z.k [0,2]
def F10 (a0 : Value) : Prop :=
 oC 41 #[a0] w R fun t4 w =>
 oQ true .neq 9 t4 (.string ⟨#[]⟩) w R fun t5 w =>
 gd t5 true (fun K => K a0 w) w fun t7 w =>
 gd t5 true (fun K => oQ true .neq 5 t7 (Z.u 125) w R K) w fun t8 w =>
 pick t5 t8 (.bool false) w fun t9 w =>
 R (.returned t9) w
theorem F10.calls {R w a0} : F10 R w a0 → oX 10 #[a0] w R := Z.k [0,2]
def SC (a0 a1 : Value) : Prop :=
 oB 32 a0 w R fun t2 w =>
 oB 32 a1 w R fun t3 w =>
 oL 32 t2 w R fun t7 w =>
 oC 43 #[t7] w R fun t8 w =>
 oQ true .eql 3 t8 (Z.i 0) w R fun t9 w =>
 gd t9 false (fun K => oL 32 t3 w R K) w fun t11 w =>
 gd t9 false (fun K => oC 43 #[t11] w R K) w fun t12 w =>
 gd t9 false (fun K => oQ true .eql 3 t12 (Z.i 0) w R K) w fun t13 w =>
 pick t9 (.bool true) t13 w fun t14 w =>
 cond t14 (R (.returned (.tuple #[(.pointer none), (Z.i 1)])) w)
 (oL 32 t2 w R fun t15 w =>
 oL 32 t3 w R fun t16 w =>
 oD 87 #[(0, t15), (1, t16)] w R fun t17 w =>
 oD 89 #[(0, t17)] w R fun t18 w =>
 oB 89 t18 w R fun t19 w =>
 oC 44 #[t19] w R fun t21 w =>
 R (.returned (.tuple #[t19, (Z.i 0)])) w)
theorem SC.calls {R w a0 a1} : SC R w a0 a1 → oX 12 #[a0, a1] w R := Z.k [0,1,2,3,4,5,6,14]
def F13 (a0 : Value) : Prop :=
 df a0 w fun t4 w =>
 oG 89 t4 2 33 w R fun t6 w =>
 R (.returned t6) w
theorem F13.calls {R w a0} : F13 R w a0 → oX 13 #[a0] w R := Z.k [0,2]
def F14 (a0 a1 a2 : Value) : Prop :=
 oB 37 a2 w R fun t5 w =>
 oC 45 #[a0, a1] w R fun t9 w =>
 oU t9 w R fun t10 w =>
 cond t10 (R (.returned (.bool false)) w)
 (drawn w fun T w =>
 bJ T w (fun w K => df a0 w K) fun t12 =>
 qG T w 91 t12 1 52 fun t14 =>
 bJ T w (fun w K => oL 37 t5 w aZ K) fun t16 =>
 bJ T w (fun w K => oI 52 t14 a1 w aZ K) fun t17 =>
 ext w fun w =>
 oS 37 t17 t16 w R fun _ w =>
 ext w fun w =>
 R (.returned (.bool true)) w)
theorem F14.calls {R w a0 a1 a2} : F14 R w a0 a1 a2 → oX 14 #[a0, a1, a2] w R := Z.k [0,1,2,5,6,10]
def F15 (a0 : Value) : Prop :=
 oD 95 #[(0, a0), (3, (Z.u 96))] w R fun t4 w =>
 oB 95 t4 w R fun t5 w =>
 R (.returned t5) w
theorem F15.calls {R w a0} : F15 R w a0 → oX 15 #[a0] w R := Z.k [0,2]
def F16 (a0 : Value) : Prop :=
 df a0 w fun t4 w =>
 oF 95 t4 1 w R fun t5 w =>
 R (.returned t5) w
theorem F16.calls {R w a0} : F16 R w a0 → oX 16 #[a0] w R := Z.k [0,2]
def F17 (a0 : Value) : Prop :=
 oC 46 #[a0, (Z.i 1), (Z.i 0)] w R fun t3 w =>
 R (.returned (.tuple #[])) w
theorem F17.calls {R w a0} : F17 R w a0 → oX 17 #[a0] w R := Z.k [0]
def Nh (a0 a1 : Value) : Prop :=
 oB 45 a1 w R fun t3 w =>
 oG 45 t3 0 3 w R fun t8 w =>
 oQ true .eql 3 t8 (Z.i 16) w R fun t9 w =>
 cond t9 (df a0 w fun t11 w =>
 oF 95 t11 1 w R fun t12 w =>
 oC 47 #[t12] w R fun t13 w =>
 df a0 w fun t15 w =>
 oF 95 t15 2 w R fun t16 w =>
 oS 4 t16 (.bool false) w R fun _ w =>
 R (.returned (.tuple #[(.bool false), (Z.i 0)])) w)
 (df a0 w fun t18 w =>
 oF 95 t18 1 w R fun t19 w =>
 oC 28 #[t19] w R fun t20 w =>
 oQ true .neq 25 t20 (Z.i 0) w R fun t23 w =>
 cond t23 (R (.returned (.tuple #[(.bool false), t20])) w)
 (oL 45 t3 w R fun t26 w =>
 oC 48 #[t26] w R fun t27 w =>
 oU t27 w R fun t28 w =>
 cond t28 (R (.returned (.tuple #[(.bool false), (Z.i 1)])) w)
 (oG 45 t3 0 3 w R fun t31 w =>
 oQ true .eql 3 t31 (Z.i 17) w R fun t32 w =>
 cond t32 (oG 45 t3 1 5 w R fun t35 w =>
 oC 49 #[a0, t35] w R fun t36 w =>
 oE t36 0 w R fun t37 w =>
 oE t36 1 w R fun t38 w =>
 R (.returned (.tuple #[t37, t38])) w)
 (drawn w fun T w =>
 bJ Ext w (fun w K => df a0 w K) fun t41 =>
 qG Ext w 95 t41 0 28 fun t43 =>
 qG T w 45 t3 0 3 fun t46 =>
 ext w fun w =>
 zA T w (fun w K => oC 13 #[t43] w R K) fun t44 w =>
 ext w fun w =>
 oC 50 #[t44, t46] w R fun t47 w =>
 ext w fun w =>
 cond t47 (R (.returned (.tuple #[(.bool false), (Z.i 0)])) w)
 (drawn w fun T w =>
 bJ T w (fun w K => df a0 w K) fun t49 =>
 bJ T w (fun w K => oF 95 t49 1 w aZ K) fun t50 =>
 bJ Ext w (fun w K => oL 45 t3 w aZ K) fun t52 =>
 ext w fun w =>
 zA T w (fun w K => oC 52 #[a0, t52] w R K) fun t53 w =>
 ext w fun w =>
 oC 51 #[t50, t53] w R fun t54 w =>
 ext w fun w =>
 R (.returned (.tuple #[(.bool false), t54])) w)))))
theorem Nh.calls {R w a0 a1} : Nh R w a0 a1 → oX 18 #[a0, a1] w R := Z.k [0,1,3,4,5,6,9,21,25,29,39]
def F19 (a0 : Value) : Prop :=
 oA 48 w R fun t2 w =>
 oC 53 #[a0, (.func (.func 54) #[] #[])] w R fun t5 w =>
 oE t5 0 w R fun t6 w =>
 oE t5 1 w R fun t7 w =>
 oS 48 t2 t6 w R fun _ w =>
 jo ((Instr.loadAt 48 t2).run Tryz.prog w) w fun r0 =>
 R (.returned (.tuple #[r0, t7])) w
theorem F19.calls {R w a0} : F19 R w a0 → oX 19 #[a0] w R := Z.k [0,2,3]
def F20 (a0 a1 : Value) : Prop :=
 oC 10 #[a1] w R fun t6 w =>
 cond t6 (bi ((Instr.buildSlice 24 1 #[(0, a1)]).run Tryz.prog w) R fun t8 w =>
 R (.returned t8) w)
 (oC 55 #[a0, a1] w R fun t11 w =>
 R (.returned t11) w)
theorem F20.calls {R w a0 a1} : F20 R w a0 a1 → oX 20 #[a0, a1] w R := Z.k [0,1,4,6]
def F24 (a0 : Value) : Prop :=
 df a0 w fun t4 w =>
 oG 91 t4 2 3 w R fun t6 w =>
 R (.returned t6) w
theorem F24.calls {R w a0} : F24 R w a0 → oX 24 #[a0] w R := Z.k [0,2]
def F28 (a0 : Value) : Prop :=
 df a0 w fun t4 w =>
 oG 93 t4 0 3 w R fun t6 w =>
 oQ true .neq 3 t6 (Z.i 1) w R fun t7 w =>
 cond t7 (R (.returned (Z.i 40)) w)
 (R (.returned (Z.i 0)) w)
theorem F28.calls {R w a0} : F28 R w a0 → oX 28 #[a0] w R := Z.k [0,2,7]
def F30 (a0 : Value) : Prop :=
 df a0 w fun t4 w =>
 oG 91 t4 1 52 w R fun t6 w =>
 oN 52 t6 w R fun t7 w =>
 R (.returned t7) w
theorem F30.calls {R w a0} : F30 R w a0 → oX 30 #[a0] w R := Z.k [0,2]
def F31 (a0 a1 : Value) : Prop :=
 oA 37 w R fun t4 w =>
 oC 45 #[a0, a1] w R fun t7 w =>
 oU t7 w R fun t8 w =>
 cond t8 (oD 37 #[] w R fun t9 w =>
 oS 37 t4 t9 w R fun _ w =>
 jo ((Instr.loadAt 37 t4).run Tryz.prog w) w fun r0 =>
 R (.returned r0) w)
 (df a0 w fun t11 w =>
 oG 91 t11 1 52 w R fun t13 w =>
 oI 52 t13 a1 w R fun t15 w =>
 oL 37 t15 w R fun t16 w =>
 oS 37 t4 t16 w R fun _ w =>
 jo ((Instr.loadAt 37 t4).run Tryz.prog w) w fun r0 =>
 R (.returned r0) w)
theorem F31.calls {R w a0 a1} : F31 R w a0 a1 → oX 31 #[a0, a1] w R := Z.k [0,1,4,8]
def F33 (a0 : Value) : Prop :=
 oB 32 a0 w R fun t1 w =>
 oL 32 t1 w R fun t5 w =>
 oC 43 #[t5] w R fun t6 w =>
 oQ true .eql 3 t6 (Z.i 0) w R fun t8 w =>
 cond t8 (R (.returned (.tuple #[(.pointer none), (Z.i 1)])) w)
 (drawn w fun T w =>
 bJ T w (fun w K => oL 32 t1 w aZ K) fun t9 =>
 ext w fun w =>
 zA T w (fun w K => bi ((Instr.makeSlice 52 t6 t6).run Tryz.prog w) R K) fun t11 w =>
 bJ T w (fun w K => oD 91 #[(0, t9), (1, t11)] w aZ K) fun t12 =>
 ext w fun w =>
 oB 91 t12 w R fun t13 w =>
 ext w fun w =>
 R (.returned (.tuple #[t13, (Z.i 0)])) w)
theorem F33.calls {R w a0} : F33 R w a0 → oX 33 #[a0] w R := Z.k [0,1,2,3,4,8]
def F36 (a0 a1 : Value) : Prop :=
 oC 45 #[a0, a1] w R fun t7 w =>
 oU t7 w R fun t8 w =>
 cond t8 (R (.returned (.bool false)) w)
 (df a0 w fun t11 w =>
 oF 91 t11 2 w R fun t12 w =>
 oS 3 t12 a1 w R fun _ w =>
 R (.returned (.bool true)) w)
theorem F36.calls {R w a0 a1} : F36 R w a0 a1 → oX 36 #[a0, a1] w R := Z.k [0,1,4,8]
def Sv (a0 a1 a2 : Value) : Prop :=
 oC 24 #[a0] w R fun t12 w =>
 oC 71 #[a0, a1] w R fun t15 w =>
 oQ true .neq 25 t15 (Z.i 0) w R fun t17 w =>
 cond t17 (R (.returned t15) w)
 (oC 31 #[a0, t12] w R fun t21 w =>
 oA 37 w R fun t9 w =>
 oS 37 t9 t21 w R fun _ w =>
 join (upd (upd (upd (upd (upd (ini [a0, a1, a2]) 6 (Z.i 0)) 7 t12) 8 t15) 17 t17) 9 t9) (fun j1 =>
 cond a2 (oC 72 #[a0] w R fun t24 w =>
 oQ true .neq 25 t24 (Z.i 0) w R fun t26 w =>
 cond t26 (R (.returned t24) w)
 (j1 (upd (upd (upd (upd (upd (upd (upd (upd (ini [a0, a1, a2]) 6 (Z.i 0)) 7 t12) 8 t15) 17 t17) 9 t9) 22 a2) 10 t24) 26 t26) w))
 (j1 (upd (upd (upd (upd (upd (upd (ini [a0, a1, a2]) 6 (Z.i 0)) 7 t12) 8 t15) 17 t17) 9 t9) 22 a2) w)) fun e1 g1 w =>
 oG 37 t9 3 5 w R fun t32 w =>
 oG 37 t9 4 5 w R fun t34 w =>
 oD 37 #[(0, a1), (3, t32), (4, t34)] w R fun t35 w =>
 oC 14 #[a0, t12, t35] w R fun t36 w =>
 oC 73 #[a0, t12] w R fun t39 w =>
 oC 74 #[a0] w R fun t41 w =>
 R (.returned (Z.i 0)) w)
theorem Sv.calls {R w a0 a1 a2} : Sv R w a0 a1 a2 → oX 37 #[a0, a1, a2] w R := Z.k [0,1,2,6,7,8,9,10,17,22,26]
def F38 (a0 a1 : Value) : Prop :=
 oB 48 a1 w R fun t3 w =>
 oG 48 t3 1 4 w R fun t12 w =>
 cond t12 (oG 48 t3 0 5 w R fun t14 w =>
 oC 75 #[t14] w R fun t15 w =>
 R (.returned t15) w)
 (oA 108 w R fun t5 w =>
 drawn w fun T w =>
 qG T w 48 t3 0 5 fun t17 =>
 bJ T w (fun w K => oC 75 #[t17] w aZ K) fun t18 =>
 bJ T w (fun w K => oP .add 9 t18 (.string ⟨#[32, 64]⟩) w aZ K) fun t19 =>
 qG T w 48 t3 2 3 fun t21 =>
 bJ T w (fun w K => oC 77 #[t21] w aZ K) fun t22 =>
 bJ T w (fun w K => oP .add 9 t19 t22 w aZ K) fun t23 =>
 ext w fun w =>
 oC 76 #[t5, t23] w R fun t24 w =>
 ext w fun w =>
 join (upd (upd (upd (upd (ini [a0, a1]) 3 t3) 4 (.string ⟨#[]⟩)) 12 t12) 5 t5) (fun j1 =>
 oG 48 t3 3 46 w R fun t26 w =>
 oN 46 t26 w R fun t27 w =>
 loop (upd (upd (upd (upd (upd (upd (upd (ini [a0, a1]) 3 t3) 4 (.string ⟨#[]⟩)) 12 t12) 5 t5) 26 t26) 27 t27) 28 (Z.i 0)) w fun e2 g2 w j2 =>
 oP .lss 3 (g2 28) t27 w R fun t29 w =>
 cond t29 (join (upd (mix [29,7,37,8,43,44,46,10,45,28] g2 e2) 29 t29) (fun j3 =>
 oI 46 t26 (g2 28) w R fun t30 w =>
 oL 54 t30 w R fun t31 w =>
 oA 54 w R fun t7 w =>
 oS 54 t7 t31 w R fun _ w =>
 oG 54 t7 0 3 w R fun t33 w =>
 oC 77 #[t33] w R fun t34 w =>
 join (upd (upd (upd (mix [29,7,37,8,43,44,46,10,45,28] g2 e2) 29 t29) 7 t7) 8 t34) (fun j4 =>
 oG 54 t7 0 3 w R fun t36 w =>
 oQ true .eql 3 t36 (Z.i (-1)) w R fun t37 w =>
 cond t37 (j4 (upd (upd (upd (upd (upd (mix [29,7,37,8,43,44,46,10,45,28] g2 e2) 29 t29) 7 t7) 8 t34) 37 t37) 8 (.string ⟨#[42]⟩)) w)
 (j4 (upd (upd (upd (upd (mix [29,7,37,8,43,44,46,10,45,28] g2 e2) 29 t29) 7 t7) 8 t34) 37 t37) w)) fun e4 g4 w =>
 oP .add 9 (.string ⟨#[32]⟩) (g4 8) w R fun t39 w =>
 oP .add 9 t39 (.string ⟨#[61]⟩) w R fun t40 w =>
 oC 76 #[t5, t40] w R fun t41 w =>
 oG 54 t7 1 52 w R fun t43 w =>
 oN 52 t43 w R fun t44 w =>
 loop (upd (upd (upd (mix [37,8] g4 e4) 43 t43) 44 t44) 45 (Z.i 0)) w fun e5 g5 w j5 =>
 oP .lss 3 (g5 45) t44 w R fun t46 w =>
 cond t46 (oI 52 t43 (g5 45) w R fun t47 w =>
 oL 37 t47 w R fun t48 w =>
 oA 37 w R fun t10 w =>
 oS 37 t10 t48 w R fun _ w =>
 oL 37 t10 w R fun t50 w =>
 oC 78 #[a0, t50] w R fun t51 w =>
 oC 76 #[t5, t51] w R fun t52 w =>
 oP .add 3 (g5 45) (Z.i 1) w R fun t53 w =>
 j5 (upd (upd (upd (mix [46,10,45] g5 e5) 46 t46) 10 t10) 45 t53) w)
 (j3 (upd (mix [46,10,45] g5 e5) 46 t46) w)) fun e3 g3 w =>
 oP .add 3 (g2 28) (Z.i 1) w R fun t54 w =>
 j2 (upd (mix [7,37,8,43,44,46,10,45] g3 e3) 28 t54) w)
 (j1 (upd (mix [29,7,37,8,43,44,46,10,45,28] g2 e2) 29 t29) w)) fun e1 g1 w =>
 oC 60 #[t5] w R fun t55 w =>
 R (.returned t55) w)
theorem F38.calls {R w a0 a1} : F38 R w a0 a1 → oX 38 #[a0, a1] w R := Z.k [0,1,3,4,5,7,8,10,12,26,27,28,29,37,43,44,45,46]
def F39 (a0 a1 : Value) : Prop :=
 join (upd (ini [a0, a1]) 4 (.int .i32 0)) (fun j1 =>
 oC 79 #[a0] w R fun t8 w =>
 oN 139 t8 w R fun t9 w =>
 loop (upd (upd (upd (upd (ini [a0, a1]) 4 (.int .i32 0)) 8 t8) 9 t9) 10 (Z.i 0)) w fun e2 g2 w j2 =>
 oP .lss 3 (g2 10) t9 w R fun t11 w =>
 cond t11 (oI 139 t8 (g2 10) w R fun t12 w =>
 oL 142 t12 w R fun t13 w =>
 oA 142 w R fun t6 w =>
 oS 142 t6 t13 w R fun _ w =>
 oG 142 t6 0 5 w R fun t15 w =>
 oQ false .eql 5 t15 a1 w R fun t17 w =>
 cond t17 (oG 142 t6 1 5 w R fun t19 w =>
 bi ((convert 5 21 t19).run Tryz.prog w) R fun t20 w =>
 R (.returned t20) w)
 (oP .add 3 (g2 10) (Z.i 1) w R fun t21 w =>
 j2 (upd (upd (upd (upd (mix [11,6,17,4,10] g2 e2) 11 t11) 6 t6) 17 t17) 10 t21) w))
 (j1 (upd (mix [11,6,17,4,10] g2 e2) 11 t11) w)) fun e1 g1 w =>
 oC 80 #[] w R fun t22 w =>
 bi ((Instr.index 143 t22 a1).run Tryz.prog w) R fun t24 w =>
 bi ((convert 5 21 t24).run Tryz.prog w) R fun t25 w =>
 R (.returned t25) w
theorem F39.calls {R w a0 a1} : F39 R w a0 a1 → oX 39 #[a0, a1] w R := Z.k [0,1,4,6,8,9,10,11,17]
def F40 (a0 : Value) : Prop :=
 oC 81 #[a0] w R fun t5 w =>
 oP .gtr 3 t5 (Z.i 0) w R fun t7 w =>
 cond t7 (oC 77 #[t5] w R fun t9 w =>
 oP .add 9 (.string ⟨#[80, 70]⟩) t9 w R fun t10 w =>
 R (.returned t10) w)
 (oC 41 #[a0] w R fun t12 w =>
 R (.returned t12) w)
theorem F40.calls {R w a0} : F40 R w a0 → oX 40 #[a0] w R := Z.k [0,2,3,7]
def F41 (a0 : Value) : Prop :=
 oQ true .eql 5 a0 (Z.u 125) w R fun t5 w =>
 cond t5 (R (.returned (.string ⟨#[69, 78, 84, 69, 82]⟩)) w)
 (oQ true .eql 5 a0 (Z.u 109) w R fun t7 w =>
 cond t7 (R (.returned (.string ⟨#[67, 76, 69, 65, 82]⟩)) w)
 (oQ true .eql 5 a0 (Z.u 108) w R fun t9 w =>
 cond t9 (R (.returned (.string ⟨#[80, 65, 49]⟩)) w)
 (oQ true .eql 5 a0 (Z.u 110) w R fun t11 w =>
 cond t11 (R (.returned (.string ⟨#[80, 65, 50]⟩)) w)
 (oQ true .eql 5 a0 (Z.u 107) w R fun t13 w =>
 cond t13 (R (.returned (.string ⟨#[80, 65, 51]⟩)) w)
 (R (.returned (.string ⟨#[]⟩)) w)))))
theorem F41.calls {R w a0} : F41 R w a0 → oX 41 #[a0] w R := Z.k [0,2,3,4,6,8,10,12]
def F43 (a0 : Value) : Prop :=
 oB 32 a0 w R fun t1 w =>
 oG 32 t1 0 3 w R fun t5 w =>
 oG 32 t1 1 3 w R fun t7 w =>
 oP .mul 3 t5 t7 w R fun t8 w =>
 oG 32 t1 0 3 w R fun t10 w =>
 oP .lss 3 t10 (Z.i 1) w R fun t11 w =>
 gd t11 false (fun K => oF 32 t1 0 w R K) w fun t13 w =>
 gd t11 false (fun K => oL 3 t13 w R K) w fun t14 w =>
 gd t11 false (fun K => oP .gtr 3 t14 (Z.i 43) w R K) w fun t15 w =>
 pick t11 (.bool true) t15 w fun t16 w =>
 gd t16 false (fun K => oF 32 t1 1 w R K) w fun t18 w =>
 gd t16 false (fun K => oL 3 t18 w R K) w fun t19 w =>
 gd t16 false (fun K => oP .lss 3 t19 (Z.i 1) w R K) w fun t20 w =>
 pick t16 (.bool true) t20 w fun t21 w =>
 gd t21 false (fun K => oF 32 t1 1 w R K) w fun t23 w =>
 gd t21 false (fun K => oL 3 t23 w R K) w fun t24 w =>
 gd t21 false (fun K => oP .gtr 3 t24 (Z.i 132) w R K) w fun t25 w =>
 pick t21 (.bool true) t25 w fun t26 w =>
 gd t26 false (fun K => K t8 w) w fun t28 w =>
 gd t26 false (fun K => oP .gtr 3 t28 (Z.i 4096) w R K) w fun t29 w =>
 pick t26 (.bool true) t29 w fun t30 w =>
 cond t30 (R (.returned (Z.i 0)) w)
 (R (.returned t8) w)
theorem F43.calls {R w a0} : F43 R w a0 → oX 43 #[a0] w R := Z.k [0,1,2,3,30]
def YR (a0 : Value) : Prop :=
 oC 82 #[a0, (Z.i 0)] w R fun t3 w =>
 R (.returned (.tuple #[])) w
theorem YR.calls {R w a0} : YR R w a0 → oX 44 #[a0] w R := Z.k [0]
def F45 (a0 a1 : Value) : Prop :=
 oP .geq 3 a1 (Z.i 0) w R fun t6 w =>
 gd t6 true (fun K => K a1 w) w fun t8 w =>
 gd t6 true (fun K => K a0 w) w fun t9 w =>
 gd t6 true (fun K => df t9 w K) w fun t10 w =>
 gd t6 true (fun K => oF 91 t10 1 w R K) w fun t11 w =>
 gd t6 true (fun K => oL 52 t11 w R K) w fun t12 w =>
 gd t6 true (fun K => oN 52 t12 w R K) w fun t13 w =>
 gd t6 true (fun K => oP .lss 3 t8 t13 w R K) w fun t14 w =>
 pick t6 t14 (.bool false) w fun t15 w =>
 R (.returned t15) w
theorem F45.calls {R w a0 a1} : F45 R w a0 a1 → oX 45 #[a0, a1] w R := Z.k [0,1,4]
def F46 (a0 a1 a2 : Value) : Prop :=
 join (ini [a0, a1, a2]) (fun j1 =>
 df a0 w fun t8 w =>
 oG 93 t8 0 3 w R fun t10 w =>
 oQ false .neq 3 a1 t10 w R fun t11 w =>
 cond t11 (df a0 w fun t13 w =>
 oG 93 t13 2 3 w R fun t15 w =>
 oP .add 3 t15 (Z.i 1) w R fun t16 w =>
 df a0 w fun t17 w =>
 oF 93 t17 2 w R fun t18 w =>
 oS 3 t18 t16 w R fun _ w =>
 j1 (upd (ini [a0, a1, a2]) 11 t11) w)
 (j1 (upd (ini [a0, a1, a2]) 11 t11) w)) fun e1 g1 w =>
 df a0 w fun t23 w =>
 oF 93 t23 0 w R fun t24 w =>
 oS 3 t24 a1 w R fun _ w =>
 df a0 w fun t25 w =>
 oF 93 t25 1 w R fun t26 w =>
 oS 25 t26 a2 w R fun _ w =>
 R (.returned (.tuple #[])) w
theorem F46.calls {R w a0 a1 a2} : F46 R w a0 a1 a2 → oX 46 #[a0, a1, a2] w R := Z.k [0,1,2,11]
def F48 (a0 : Value) : Prop :=
 oB 45 a0 w R fun t1 w =>
 oG 45 t1 0 3 w R fun t4 w =>
 oP .geq 3 t4 (Z.i 1) w R fun t5 w =>
 gd t5 true (fun K => oF 45 t1 0 w R K) w fun t7 w =>
 gd t5 true (fun K => oL 3 t7 w R K) w fun t8 w =>
 gd t5 true (fun K => oP .lss 3 t8 (Z.i 17) w R K) w fun t9 w =>
 pick t5 t9 (.bool false) w fun t10 w =>
 gd t10 false (fun K => oF 45 t1 0 w R K) w fun t12 w =>
 gd t10 false (fun K => oL 3 t12 w R K) w fun t13 w =>
 gd t10 false (fun K => oQ true .eql 3 t13 (Z.i 17) w R K) w fun t14 w =>
 gd t10 false (fun K => K t14 w) w fun t15 w =>
 gd t15 true (fun K => oF 45 t1 1 w R K) w fun t16 w =>
 gd t15 true (fun K => oL 5 t16 w R K) w fun t17 w =>
 gd t15 true (fun K => oC 9 #[t17] w R K) w fun t18 w =>
 gd t10 false (fun K => pick t15 t18 (.bool false) w K) w fun t19 w =>
 pick t10 (.bool true) t19 w fun t20 w =>
 R (.returned t20) w
theorem F48.calls {R w a0} : F48 R w a0 → oX 48 #[a0] w R := Z.k [0,1,2]
def F49 (a0 a1 : Value) : Prop :=
 df a0 w fun t8 w =>
 oF 95 t8 1 w R fun t9 w =>
 oC 83 #[t9] w R fun t10 w =>
 oQ true .neq 25 t10 (Z.i 0) w R fun t12 w =>
 cond t12 (R (.returned (.tuple #[(.bool false), t10])) w)
 (df a0 w fun t17 w =>
 oF 95 t17 2 w R fun t18 w =>
 oS 4 t18 (.bool false) w R fun _ w =>
 df a0 w fun t19 w =>
 oF 95 t19 3 w R fun t20 w =>
 oS 5 t20 a1 w R fun _ w =>
 join (upd (upd (upd (upd (ini [a0, a1]) 4 (.bool false)) 5 (Z.i 0)) 6 t10) 12 t12) (fun j1 =>
 oQ true .eql 5 a1 (Z.u 109) w R fun t22 w =>
 cond t22 (df a0 w fun t24 w =>
 oG 95 t24 0 28 w R fun t26 w =>
 oC 44 #[t26] w R fun t27 w =>
 j1 (upd (upd (upd (upd (upd (ini [a0, a1]) 4 (.bool false)) 5 (Z.i 0)) 6 t10) 12 t12) 22 t22) w)
 (j1 (upd (upd (upd (upd (upd (ini [a0, a1]) 4 (.bool false)) 5 (Z.i 0)) 6 t10) 12 t12) 22 t22) w)) fun e1 g1 w =>
 R (.returned (.tuple #[(.bool true), (Z.i 0)])) w)
theorem F49.calls {R w a0 a1} : F49 R w a0 a1 → oX 49 #[a0, a1] w R := Z.k [0,1,4,5,6,12,22]
def F50 (a0 a1 : Value) : Prop :=
 join (upd (ini [a0, a1]) 4 (.bool false)) (fun j1 =>
 oQ true .eql 3 a1 (Z.i 2) w R fun t7 w =>
 cond t7 (oC 84 #[a0] w R fun t9 w =>
 j1 (upd (upd (upd (ini [a0, a1]) 4 (.bool false)) 5 a1) 6 t7) w)
 (oQ true .eql 3 a1 (Z.i 3) w R fun t11 w =>
 cond t11 (oC 85 #[a0] w R fun t13 w =>
 j1 (upd (upd (upd (upd (ini [a0, a1]) 4 (.bool false)) 5 a1) 6 t7) 10 t11) w)
 (oQ true .eql 3 a1 (Z.i 4) w R fun t15 w =>
 cond t15 (oC 86 #[a0] w R fun t17 w =>
 j1 (upd (upd (upd (upd (upd (ini [a0, a1]) 4 (.bool false)) 5 a1) 6 t7) 10 t11) 14 t15) w)
 (oQ true .eql 3 a1 (Z.i 5) w R fun t19 w =>
 cond t19 (oC 87 #[a0] w R fun t21 w =>
 j1 (upd (upd (upd (upd (upd (upd (ini [a0, a1]) 4 (.bool false)) 5 a1) 6 t7) 10 t11) 14 t15) 18 t19) w)
 (oQ true .eql 3 a1 (Z.i 6) w R fun t23 w =>
 cond t23 (oC 88 #[a0, (Z.i (-1)), (Z.i 0)] w R fun t25 w =>
 j1 (upd (upd (upd (upd (upd (upd (upd (ini [a0, a1]) 4 (.bool false)) 5 a1) 6 t7) 10 t11) 14 t15) 18 t19) 22 t23) w)
 (oQ true .eql 3 a1 (Z.i 7) w R fun t27 w =>
 cond t27 (oC 88 #[a0, (Z.i 1), (Z.i 0)] w R fun t29 w =>
 j1 (upd (upd (upd (upd (upd (upd (upd (upd (ini [a0, a1]) 4 (.bool false)) 5 a1) 6 t7) 10 t11) 14 t15) 18 t19) 22 t23) 26 t27) w)
 (oQ true .eql 3 a1 (Z.i 8) w R fun t31 w =>
 cond t31 (oC 88 #[a0, (Z.i 0), (Z.i (-1))] w R fun t33 w =>
 j1 (upd (upd (upd (upd (upd (upd (upd (upd (upd (ini [a0, a1]) 4 (.bool false)) 5 a1) 6 t7) 10 t11) 14 t15) 18 t19) 22 t23) 26 t27) 30 t31) w)
 (oQ true .eql 3 a1 (Z.i 9) w R fun t35 w =>
 cond t35 (oC 88 #[a0, (Z.i 0), (Z.i 1)] w R fun t37 w =>
 j1 (upd (upd (upd (upd (upd (upd (upd (upd (upd (upd (ini [a0, a1]) 4 (.bool false)) 5 a1) 6 t7) 10 t11) 14 t15) 18 t19) 22 t23) 26 t27) 30 t31) 34 t35) w)
 (R (.returned (.bool false)) w))))))))) fun e1 g1 w =>
 R (.returned (.bool true)) w
theorem F50.calls {R w a0 a1} : F50 R w a0 a1 → oX 50 #[a0, a1] w R := Z.k [0,1,4,5,6,10,14,18,22,26,30,34]
def F51 (a0 a1 : Value) : Prop :=
 oC 28 #[a0] w R fun t7 w =>
 oQ true .neq 25 t7 (Z.i 0) w R fun t9 w =>
 cond t9 (R (.returned t7) w)
 (join (upd (upd (upd (ini [a0, a1]) 4 (Z.i 0)) 5 t7) 9 t9) (fun j1 =>
 oQ true .neq 25 a1 (Z.i 0) w R fun t12 w =>
 cond t12 (oC 46 #[a0, (Z.i 3), a1] w R fun t15 w =>
 j1 (upd (upd (upd (upd (ini [a0, a1]) 4 (Z.i 0)) 5 t7) 9 t9) 12 t12) w)
 (j1 (upd (upd (upd (upd (ini [a0, a1]) 4 (Z.i 0)) 5 t7) 9 t9) 12 t12) w)) fun e1 g1 w =>
 R (.returned a1) w)
theorem F51.calls {R w a0 a1} : F51 R w a0 a1 → oX 51 #[a0, a1] w R := Z.k [0,1,4,5,9,12]
def YO (a0 a1 : Value) : Prop :=
 oB 45 a1 w R fun t3 w =>
 df a0 w fun t7 w =>
 oG 95 t7 0 28 w R fun t9 w =>
 oC 13 #[t9] w R fun t10 w =>
 join (upd (upd (upd (ini [a0, a1]) 3 t3) 4 (Z.i 0)) 5 t10) (fun j1 =>
 oG 45 t3 0 3 w R fun t12 w =>
 oQ true .eql 3 t12 (Z.i 1) w R fun t14 w =>
 cond t14 (drawn w fun T w =>
 qG T w 45 t3 1 5 fun t17 =>
 bJ T w (fun w K => df a0 w K) fun t19 =>
 qG T w 95 t19 2 4 fun t21 =>
 ext w fun w =>
 oC 37 #[t10, t17, t21] w R fun t22 w =>
 ext w fun w =>
 R (.returned t22) w)
 (oQ true .eql 3 t12 (Z.i 10) w R fun t24 w =>
 cond t24 (oC 89 #[t10] w R fun t26 w =>
 R (.returned t26) w)
 (oQ true .eql 3 t12 (Z.i 11) w R fun t28 w =>
 cond t28 (oC 90 #[t10] w R fun t30 w =>
 j1 (upd (upd (upd (upd (upd (upd (upd (ini [a0, a1]) 3 t3) 4 (Z.i 0)) 5 t10) 12 t12) 13 t14) 23 t24) 27 t28) w)
 (oQ true .eql 3 t12 (Z.i 12) w R fun t32 w =>
 cond t32 (oC 91 #[t10] w R fun t34 w =>
 R (.returned t34) w)
 (oQ true .eql 3 t12 (Z.i 13) w R fun t36 w =>
 cond t36 (df a0 w fun t39 w =>
 oG 95 t39 2 4 w R fun t41 w =>
 oU t41 w R fun t42 w =>
 df a0 w fun t43 w =>
 oF 95 t43 2 w R fun t44 w =>
 oS 4 t44 t42 w R fun _ w =>
 j1 (upd (upd (upd (upd (upd (upd (upd (upd (upd (ini [a0, a1]) 3 t3) 4 (Z.i 0)) 5 t10) 12 t12) 13 t14) 23 t24) 27 t28) 31 t32) 35 t36) w)
 (oQ true .eql 3 t12 (Z.i 14) w R fun t46 w =>
 cond t46 (df a0 w fun t49 w =>
 oG 95 t49 2 4 w R fun t51 w =>
 oC 92 #[t10, t51] w R fun t52 w =>
 R (.returned t52) w)
 (oQ true .eql 3 t12 (Z.i 15) w R fun t54 w =>
 cond t54 (df a0 w fun t57 w =>
 oG 95 t57 2 4 w R fun t59 w =>
 oC 93 #[t10, t59] w R fun t60 w =>
 R (.returned t60) w)
 (j1 (upd (upd (upd (upd (upd (upd (upd (upd (upd (upd (upd (ini [a0, a1]) 3 t3) 4 (Z.i 0)) 5 t10) 12 t12) 13 t14) 23 t24) 27 t28) 31 t32) 35 t36) 45 t46) 53 t54) w)))))))) fun e1 g1 w =>
 R (.returned (Z.i 0)) w
theorem YO.calls {R w a0 a1} : YO R w a0 a1 → oX 52 #[a0, a1] w R := Z.k [0,1,3,4,5,12,13,23,27,31,35,45,53]
def F54 (a0 : Value) : Prop :=
 oA 48 w R fun t2 w =>
 oC 95 #[a0] w R fun t5 w =>
 oD 48 #[(0, t5)] w R fun t6 w =>
 oA 48 w R fun t3 w =>
 oS 48 t3 t6 w R fun _ w =>
 df a0 w fun t8 w =>
 oG 152 t8 0 24 w R fun t10 w =>
 oN 24 t10 w R fun t11 w =>
 oQ true .eql 3 t11 (Z.i 0) w R fun t12 w =>
 cond t12 (oF 48 t3 1 w R fun t13 w =>
 oS 4 t13 (.bool true) w R fun _ w =>
 oL 48 t3 w R fun t14 w =>
 oS 48 t2 t14 w R fun _ w =>
 jo ((Instr.loadAt 48 t2).run Tryz.prog w) w fun r0 =>
 R (.returned r0) w)
 (oC 96 #[a0] w R fun t16 w =>
 oF 48 t3 2 w R fun t17 w =>
 oS 3 t17 t16 w R fun _ w =>
 join (upd (upd (upd (ini [a0]) 2 t2) 3 t3) 12 t12) (fun j1 =>
 loop (upd (upd (upd (ini [a0]) 2 t2) 3 t3) 12 t12) w fun e2 g2 w j2 =>
 df a0 w fun t19 w =>
 oG 152 t19 0 24 w R fun t21 w =>
 oN 24 t21 w R fun t22 w =>
 oP .gtr 3 t22 (Z.i 0) w R fun t23 w =>
 cond t23 (drawn w fun T w =>
 qG T w 48 t3 3 46 fun t25 =>
 ext w fun w =>
 zA T w (fun w K => oC 97 #[a0] w R K) fun t27 w =>
 ext w fun w =>
 zA T w (fun w K => bi ((Instr.buildSlice 46 1 #[(0, t27)]).run Tryz.prog w) R K) fun t28 w =>
 ext w fun w =>
 bi ((Builtin.append_ #[46, 46] 46 #[t25, t28]).run Tryz.prog w) R fun t29 w =>
 bJ T w (fun w K => oF 48 t3 3 w aZ K) fun t30 =>
 ext w fun w =>
 oS 46 t30 t29 w R fun _ w =>
 ext w fun w =>
 j2 (upd (mix [23] g2 e2) 23 t23) w)
 (j1 (upd (mix [23] g2 e2) 23 t23) w)) fun e1 g1 w =>
 oL 48 t3 w R fun t31 w =>
 oS 48 t2 t31 w R fun _ w =>
 jo ((Instr.loadAt 48 t2).run Tryz.prog w) w fun r0 =>
 R (.returned r0) w)
theorem F54.calls {R w a0} : F54 R w a0 → oX 54 #[a0] w R := Z.k [0,2,3,12,23]
def F55 (a0 a1 : Value) : Prop :=
 bi ((Instr.buildSlice 24 1 #[(0, a1)]).run Tryz.prog w) R fun t7 w =>
 oC 24 #[a0] w R fun t10 w =>
 oC 67 #[a0, t10] w R fun t11 w =>
 bi ((Builtin.append_ #[24, 24] 24 #[t7, t11]).run Tryz.prog w) R fun t12 w =>
 oC 61 #[a0] w R fun t14 w =>
 cond t14 (oC 98 #[a0] w R fun t17 w =>
 bi ((Builtin.append_ #[24, 24] 24 #[t12, t17]).run Tryz.prog w) R fun t18 w =>
 R (.returned t18) w)
 (oC 99 #[a0] w R fun t21 w =>
 bi ((Builtin.append_ #[24, 24] 24 #[t12, t21]).run Tryz.prog w) R fun t22 w =>
 R (.returned t22) w)
theorem F55.calls {R w a0 a1} : F55 R w a0 a1 → oX 55 #[a0, a1] w R := Z.k [0,1,4,5,14]
def F57 (a0 : Value) : Prop :=
 oP .geq 5 a0 (Z.u 64) w R fun t4 w =>
 gd t4 true (fun K => K a0 w) w fun t6 w =>
 gd t4 true (fun K => oP .leq 5 t6 (Z.u 254) w R K) w fun t7 w =>
 pick t4 t7 (.bool false) w fun t8 w =>
 R (.returned t8) w
theorem F57.calls {R w a0} : F57 R w a0 → oX 57 #[a0] w R := Z.k [0,2]
def F60 (a0 : Value) : Prop :=
 drawn w fun T w =>
 bJ Ext w (fun w K => df a0 w K) fun t4 =>
 qG Ext w 108 t4 1 24 fun t6 =>
 bJ T w (fun w K => df a0 w K) fun t9 =>
 qG T w 108 t9 1 24 fun t11 =>
 bJ T w (fun w K => oN 24 t11 w aZ K) fun t12 =>
 ext w fun w =>
 zA T w (fun w K => bi ((Builtin.unsafeSliceData_ #[24] 156 #[t6]).run Tryz.prog w) R K) fun t7 w =>
 ext w fun w =>
 bi ((Builtin.unsafeString_ #[156, 3] 9 #[t7, t12]).run Tryz.prog w) R fun t13 w =>
 ext w fun w =>
 R (.returned t13) w
theorem F60.calls {R w a0} : F60 R w a0 → oX 60 #[a0] w R := Z.k [0,2]
def F61 (a0 : Value) : Prop :=
 oC 66 #[a0, (Z.i 0), (Z.i 1)] w R fun t4 w =>
 oP .geq 3 t4 (Z.i 0) w R fun t5 w =>
 R (.returned t5) w
theorem F61.calls {R w a0} : F61 R w a0 → oX 61 #[a0] w R := Z.k [0,2]
def YS (a0 a1 a2 : Value) : Prop :=
 oP .lss 3 a1 (Z.i 0) w R fun t10 w =>
 gd t10 false (fun K => K a1 w) w fun t12 w =>
 gd t10 false (fun K => K a0 w) w fun t13 w =>
 gd t10 false (fun K => oC 30 #[t13] w R K) w fun t14 w =>
 gd t10 false (fun K => oP .geq 3 t12 t14 w R K) w fun t15 w =>
 pick t10 (.bool true) t15 w fun t16 w =>
 cond t16 (R (.returned (Z.i (-1))) w)
 (join (upd (upd (ini [a0, a1, a2]) 6 (Z.i 0)) 16 t16) (fun j1 =>
 oC 30 #[a0] w R fun t18 w =>
 loop (upd (upd (upd (upd (ini [a0, a1, a2]) 6 (Z.i 0)) 16 t16) 18 t18) 19 (Z.i 0)) w fun e2 g2 w j2 =>
 oP .lss 3 (g2 19) t18 w R fun t20 w =>
 cond t20 (oC 112 #[a0] w R fun t23 w =>
 oP .mul 3 (g2 19) a2 w R fun t27 w =>
 oC 111 #[t23, a1, t27] w R fun t28 w =>
 oC 31 #[a0, t28] w R fun t31 w =>
 bi ((Instr.field 37 t31 2).run Tryz.prog w) R fun t32 w =>
 cond t32 (R (.returned t28) w)
 (oP .add 3 (g2 19) (Z.i 1) w R fun t34 w =>
 j2 (upd (upd (upd (upd (upd (mix [20,7,8,32,6,19] g2 e2) 20 t20) 7 (g2 19)) 8 t28) 32 t32) 19 t34) w))
 (j1 (upd (mix [20,7,8,32,6,19] g2 e2) 20 t20) w)) fun e1 g1 w =>
 R (.returned (Z.i (-1))) w)
theorem YS.calls {R w a0 a1 a2} : YS R w a0 a1 a2 → oX 66 #[a0, a1, a2] w R := Z.k [0,1,2,6,7,8,16,18,19,20,32]
def F67 (a0 a1 : Value) : Prop :=
 oC 30 #[a0] w R fun t10 w =>
 oC 113 #[a1, t10] w R fun t11 w =>
 oE t11 0 w R fun t12 w =>
 oE t11 1 w R fun t13 w =>
 oA 168 w R fun t5 w =>
 oS 168 t5 t12 w R fun _ w =>
 bi ((Instr.sliceAt 168 t5 none none none).run Tryz.prog w) R fun t14 w =>
 R (.returned t14) w
theorem F67.calls {R w a0 a1} : F67 R w a0 a1 → oX 67 #[a0, a1] w R := Z.k [0,1,4,5]
def F68 (a0 : Value) : Prop :=
 bi ((convert 5 3 a0).run Tryz.prog w) R fun t4 w =>
 oC 114 #[t4] w R fun t5 w =>
 R (.returned t5) w
theorem F68.calls {R w a0} : F68 R w a0 → oX 68 #[a0] w R := Z.k [0,2]
def F69 (a0 : Value) : Prop :=
 oB 37 a0 w R fun t1 w =>
 oG 37 t1 1 4 w R fun t5 w =>
 gd t5 true (fun K => oF 37 t1 0 w R K) w fun t7 w =>
 gd t5 true (fun K => oL 5 t7 w R K) w fun t8 w =>
 gd t5 true (fun K => oP .lss 5 t8 (Z.u 64) w R K) w fun t9 w =>
 pick t5 t9 (.bool false) w fun t10 w =>
 cond t10 (bi ((Instr.buildSlice 24 2 #[(0, (Z.u 8)), (1, (Z.u 64))]).run Tryz.prog w) R fun t11 w =>
 R (.returned t11) w)
 (oG 37 t1 1 4 w R fun t14 w =>
 cond t14 (oG 37 t1 0 5 w R fun t16 w =>
 bi ((Instr.buildSlice 24 2 #[(0, (Z.u 8)), (1, t16)]).run Tryz.prog w) R fun t17 w =>
 R (.returned t17) w)
 (oG 37 t1 0 5 w R fun t20 w =>
 oC 115 #[t20] w R fun t21 w =>
 oU t21 w R fun t22 w =>
 cond t22 (bi ((Instr.buildSlice 24 1 #[(0, (Z.u 64))]).run Tryz.prog w) R fun t23 w =>
 R (.returned t23) w)
 (oG 37 t1 0 5 w R fun t25 w =>
 bi ((Instr.buildSlice 24 1 #[(0, t25)]).run Tryz.prog w) R fun t26 w =>
 R (.returned t26) w)))
theorem F69.calls {R w a0} : F69 R w a0 → oX 69 #[a0] w R := Z.k [0,1,2,3,12,18]
def Su (a0 a1 : Value) : Prop :=
 oC 24 #[a0] w R fun t10 w =>
 oC 116 #[a0, t10] w R fun t11 w =>
 oE t11 0 w R fun t12 w =>
 oE t11 1 w R fun t13 w =>
 oA 173 w R fun t5 w =>
 oS 173 t5 t12 w R fun _ w =>
 oC 24 #[a0] w R fun t17 w =>
 oC 117 #[a0, t17] w R fun t18 w =>
 oU t18 w R fun t19 w =>
 cond t19 (R (.returned (Z.i 41)) w)
 (gd t13 true (fun K => oF 173 t5 2 w R K) w fun t23 w =>
 gd t13 true (fun K => oL 5 t23 w R K) w fun t24 w =>
 gd t13 true (fun K => oC 118 #[t24] w R K) w fun t25 w =>
 pick t13 t25 (.bool false) w fun t26 w =>
 gd t26 true (fun K => K a1 w) w fun t28 w =>
 gd t26 true (fun K => oC 119 #[t28] w R K) w fun t29 w =>
 gd t26 true (fun K => oU t29 w R K) w fun t30 w =>
 pick t26 t30 (.bool false) w fun t31 w =>
 cond t31 (R (.returned (Z.i 42)) w)
 (R (.returned (Z.i 0)) w))
theorem Su.calls {R w a0 a1} : Su R w a0 a1 → oX 71 #[a0, a1] w R := Z.k [0,1,4,5,6,14,20]
def F73 (a0 a1 : Value) : Prop :=
 oC 29 #[a0, a1] w R fun t8 w =>
 oP .lss 3 t8 (Z.i 0) w R fun t10 w =>
 cond t10 (R (.returned (.bool false)) w)
 (oC 123 #[a0, t8, (.bool true)] w R fun t13 w =>
 R (.returned (.bool true)) w)
theorem F73.calls {R w a0 a1} : F73 R w a0 a1 → oX 73 #[a0, a1] w R := Z.k [0,1,4,5,10]
def YN (a0 : Value) : Prop :=
 oC 24 #[a0] w R fun t8 w =>
 oC 125 #[a0, t8, (Z.i 1)] w R fun t9 w =>
 oC 124 #[a0, t9] w R fun t10 w =>
 oC 31 #[a0, t10] w R fun t13 w =>
 oA 37 w R fun t4 w =>
 oS 37 t4 t13 w R fun _ w =>
 oG 37 t4 2 4 w R fun t16 w =>
 gd t16 true (fun K => oF 37 t4 0 w R K) w fun t18 w =>
 gd t16 true (fun K => oL 5 t18 w R K) w fun t19 w =>
 gd t16 true (fun K => oC 126 #[t19] w R K) w fun t20 w =>
 pick t16 t20 (.bool false) w fun t21 w =>
 cond t21 (oC 84 #[a0] w R fun t23 w =>
 R (.returned t23) w)
 (oG 37 t4 2 4 w R fun t26 w =>
 cond t26 (oC 125 #[a0, t10, (Z.i 1)] w R fun t30 w =>
 oC 124 #[a0, t30] w R fun t31 w =>
 R (.returned t31) w)
 (R (.returned t10) w))
theorem YN.calls {R w a0} : YN R w a0 → oX 74 #[a0] w R := Z.k [0,2,3,4,14,24]
def F75 (a0 : Value) : Prop :=
 oD 45 #[(0, (Z.i 17)), (1, a0)] w R fun t5 w =>
 oC 127 #[t5] w R fun t6 w =>
 oQ true .neq 9 t6 (.string ⟨#[]⟩) w R fun t8 w =>
 cond t8 (R (.returned t6) w)
 (drawn w fun T w =>
 bJ T w (fun w K => oP .shr 5 a0 (.int .u64 4) w aZ K) fun t11 =>
 bJ T w (fun w K => oP .shr 5 a0 (.int .u64 4) w aZ K) fun t13 =>
 bJ T w (fun w K => oP .add 5 t13 (Z.u 1) w aZ K) fun t14 =>
 bJ T w (fun w K => bi ((Instr.sliceAt 9 (.string ⟨#[48, 49, 50, 51, 52, 53, 54, 55, 56, 57, 65, 66, 67, 68, 69, 70]⟩) (some t11) (some t14) none).run Tryz.prog w) aZ K) fun t15 =>
 bJ T w (fun w K => oP .and 5 a0 (Z.u 15) w aZ K) fun t17 =>
 bJ T w (fun w K => oP .and 5 a0 (Z.u 15) w aZ K) fun t19 =>
 bJ T w (fun w K => oP .add 5 t19 (Z.u 1) w aZ K) fun t20 =>
 bJ T w (fun w K => bi ((Instr.sliceAt 9 (.string ⟨#[48, 49, 50, 51, 52, 53, 54, 55, 56, 57, 65, 66, 67, 68, 69, 70]⟩) (some t17) (some t20) none).run Tryz.prog w) aZ K) fun t21 =>
 bJ T w (fun w K => oP .add 9 t15 t21 w aZ K) fun t22 =>
 ext w fun w =>
 R (.returned t22) w)
theorem F75.calls {R w a0} : F75 R w a0 → oX 75 #[a0] w R := Z.k [0,2,3,8]
def F76 (a0 a1 : Value) : Prop :=
 oC 100 #[a0] w R fun t7 w =>
 df a0 w fun t10 w =>
 oG 108 t10 1 24 w R fun t12 w =>
 bi ((Builtin.append_ #[24, 9] 24 #[t12, a1]).run Tryz.prog w) R fun t14 w =>
 df a0 w fun t15 w =>
 oF 108 t15 1 w R fun t16 w =>
 oS 24 t16 t14 w R fun _ w =>
 oN 9 a1 w R fun t18 w =>
 R (.returned (.tuple #[t18, .nilIface])) w
theorem F76.calls {R w a0 a1} : F76 R w a0 a1 → oX 76 #[a0, a1] w R := Z.k [0,1,4,5]
def F78 (a0 a1 : Value) : Prop :=
 oB 37 a1 w R fun t3 w =>
 oG 37 t3 2 4 w R fun t7 w =>
 gd t7 false (fun K => oF 37 t3 1 w R K) w fun t9 w =>
 gd t7 false (fun K => oL 4 t9 w R K) w fun t10 w =>
 gd t7 false (fun K => oU t10 w R K) w fun t11 w =>
 gd t7 false (fun K => K t11 w) w fun t12 w =>
 gd t12 true (fun K => oF 37 t3 0 w R K) w fun t13 w =>
 gd t12 true (fun K => oL 5 t13 w R K) w fun t14 w =>
 gd t12 true (fun K => oC 57 #[t14] w R K) w fun t15 w =>
 gd t12 true (fun K => oU t15 w R K) w fun t16 w =>
 gd t7 false (fun K => pick t12 t16 (.bool false) w K) w fun t17 w =>
 pick t7 (.bool true) t17 w fun t18 w =>
 cond t18 (R (.returned (.string ⟨#[32]⟩)) w)
 (oG 37 t3 1 4 w R fun t21 w =>
 cond t21 (oG 37 t3 0 5 w R fun t23 w =>
 oC 129 #[t23] w R fun t24 w =>
 bi ((convert 21 9 t24).run Tryz.prog w) R fun t25 w =>
 R (.returned t25) w)
 (oG 37 t3 0 5 w R fun t28 w =>
 oC 39 #[a0, t28] w R fun t29 w =>
 bi ((convert 21 9 t29).run Tryz.prog w) R fun t30 w =>
 R (.returned t30) w))
theorem F78.calls {R w a0 a1} : F78 R w a0 a1 → oX 78 #[a0, a1] w R := Z.k [0,1,3,4,5,19]
def F79 (a0 : Value) : Prop :=
 oQ true .eql 3 a0 (Z.i 500) w R fun t5 w =>
 cond t5 (oD 142 #[(0, (Z.u 74)), (1, (Z.u 91))] w R fun t6 w =>
 oD 142 #[(0, (Z.u 79)), (1, (Z.u 33))] w R fun t7 w =>
 oD 142 #[(0, (Z.u 90)), (1, (Z.u 93))] w R fun t8 w =>
 oD 142 #[(0, (Z.u 95)), (1, (Z.u 94))] w R fun t9 w =>
 oD 142 #[(0, (Z.u 176)), (1, (Z.u 162))] w R fun t10 w =>
 oD 142 #[(0, (Z.u 186)), (1, (Z.u 172))] w R fun t11 w =>
 oD 142 #[(0, (Z.u 187)), (1, (Z.u 124))] w R fun t12 w =>
 bi ((Instr.buildSlice 139 7 #[(0, t6), (1, t7), (2, t8), (3, t9), (4, t10), (5, t11), (6, t12)]).run Tryz.prog w) R fun t13 w =>
 R (.returned t13) w)
 (oQ true .eql 3 a0 (Z.i 1047) w R fun t15 w =>
 cond t15 (oD 142 #[(0, (Z.u 95)), (1, (Z.u 94))] w R fun t16 w =>
 oD 142 #[(0, (Z.u 173)), (1, (Z.u 91))] w R fun t17 w =>
 oD 142 #[(0, (Z.u 176)), (1, (Z.u 172))] w R fun t18 w =>
 oD 142 #[(0, (Z.u 186)), (1, (Z.u 221))] w R fun t19 w =>
 oD 142 #[(0, (Z.u 187)), (1, (Z.u 168))] w R fun t20 w =>
 oD 142 #[(0, (Z.u 189)), (1, (Z.u 93))] w R fun t21 w =>
 bi ((Instr.buildSlice 139 6 #[(0, t16), (1, t17), (2, t18), (3, t19), (4, t20), (5, t21)]).run Tryz.prog w) R fun t22 w =>
 R (.returned t22) w)
 (R (.returned (.slice none 0 0)) w))
theorem F79.calls {R w a0} : F79 R w a0 → oX 79 #[a0] w R := Z.k [0,2,3,4,14]
def F81 (a0 : Value) : Prop :=
 join (upd (upd (ini [a0]) 2 (Z.i 0)) 3 (Z.i 0)) (fun j1 =>
 oP .geq 5 a0 (Z.u 241) w R fun t6 w =>
 gd t6 true (fun K => K a0 w) w fun t8 w =>
 gd t6 true (fun K => oP .leq 5 t8 (Z.u 249) w R K) w fun t9 w =>
 pick t6 t9 (.bool false) w fun t10 w =>
 cond t10 (oP .sub 5 a0 (Z.u 240) w R fun t12 w =>
 bi ((convert 5 3 t12).run Tryz.prog w) R fun t13 w =>
 j1 (upd (upd (upd (upd (ini [a0]) 2 (Z.i 0)) 3 (Z.i 0)) 4 t10) 3 t13) w)
 (oP .geq 5 a0 (Z.u 122) w R fun t16 w =>
 gd t16 true (fun K => K a0 w) w fun t18 w =>
 gd t16 true (fun K => oP .leq 5 t18 (Z.u 124) w R K) w fun t19 w =>
 pick t16 t19 (.bool false) w fun t20 w =>
 cond t20 (oP .sub 5 a0 (Z.u 122) w R fun t22 w =>
 bi ((convert 5 3 t22).run Tryz.prog w) R fun t23 w =>
 oP .add 3 t23 (Z.i 10) w R fun t24 w =>
 j1 (upd (upd (upd (upd (upd (ini [a0]) 2 (Z.i 0)) 3 (Z.i 0)) 4 t10) 14 t20) 3 t24) w)
 (oP .geq 5 a0 (Z.u 193) w R fun t27 w =>
 gd t27 true (fun K => K a0 w) w fun t29 w =>
 gd t27 true (fun K => oP .leq 5 t29 (Z.u 201) w R K) w fun t30 w =>
 pick t27 t30 (.bool false) w fun t31 w =>
 cond t31 (oP .sub 5 a0 (Z.u 192) w R fun t33 w =>
 bi ((convert 5 3 t33).run Tryz.prog w) R fun t34 w =>
 oP .add 3 t34 (Z.i 12) w R fun t35 w =>
 j1 (upd (upd (upd (upd (upd (upd (ini [a0]) 2 (Z.i 0)) 3 (Z.i 0)) 4 t10) 14 t20) 25 t31) 3 t35) w)
 (oP .geq 5 a0 (Z.u 74) w R fun t38 w =>
 gd t38 true (fun K => K a0 w) w fun t40 w =>
 gd t38 true (fun K => oP .leq 5 t40 (Z.u 76) w R K) w fun t41 w =>
 pick t38 t41 (.bool false) w fun t42 w =>
 cond t42 (oP .sub 5 a0 (Z.u 74) w R fun t44 w =>
 bi ((convert 5 3 t44).run Tryz.prog w) R fun t45 w =>
 oP .add 3 t45 (Z.i 22) w R fun t46 w =>
 j1 (upd (upd (upd (upd (upd (upd (upd (ini [a0]) 2 (Z.i 0)) 3 (Z.i 0)) 4 t10) 14 t20) 25 t31) 36 t42) 3 t46) w)
 (j1 (upd (upd (upd (upd (upd (upd (ini [a0]) 2 (Z.i 0)) 3 (Z.i 0)) 4 t10) 14 t20) 25 t31) 36 t42) w))))) fun e1 g1 w =>
 R (.returned (g1 3)) w
theorem F81.calls {R w a0} : F81 R w a0 → oX 81 #[a0] w R := Z.k [0,2,3,4,14,25,36]
def SE (a0 a1 : Value) : Prop :=
 df a0 w fun t6 w =>
 oF 89 t6 1 w R fun t7 w =>
 oS 3 t7 a1 w R fun _ w =>
 df a0 w fun t12 w =>
 oF 89 t12 0 w R fun t13 w =>
 oI 87 t13 a1 w R fun t14 w =>
 oL 32 t14 w R fun t15 w =>
 oC 33 #[t15] w R fun t16 w =>
 oE t16 0 w R fun t17 w =>
 oE t16 1 w R fun t18 w =>
 df a0 w fun t19 w =>
 oF 89 t19 2 w R fun t20 w =>
 oS 33 t20 t17 w R fun _ w =>
 R (.returned (.tuple #[])) w
theorem SE.calls {R w a0 a1} : SE R w a0 a1 → oX 82 #[a0, a1] w R := Z.k [0,1]
def F83 (a0 : Value) : Prop :=
 oC 28 #[a0] w R fun t5 w =>
 oQ true .neq 25 t5 (Z.i 0) w R fun t7 w =>
 cond t7 (R (.returned t5) w)
 (oC 46 #[a0, (Z.i 2), (Z.i 0)] w R fun t10 w =>
 R (.returned (Z.i 0)) w)
theorem F83.calls {R w a0} : F83 R w a0 → oX 83 #[a0] w R := Z.k [0,2,3,7]
def F87 (a0 : Value) : Prop :=
 oC 133 #[a0] w R fun t5 w =>
 oC 124 #[a0, t5] w R fun t6 w =>
 R (.returned t6) w
theorem F87.calls {R w a0} : F87 R w a0 → oX 87 #[a0] w R := Z.k [0,2]
def F95 (a0 : Value) : Prop :=
 join (upd (ini [a0]) 2 (Z.u 0)) (fun j1 =>
 df a0 w fun t5 w =>
 oG 152 t5 0 24 w R fun t7 w =>
 oN 24 t7 w R fun t8 w =>
 oQ true .eql 3 t8 (Z.i 0) w R fun t9 w =>
 cond t9 (oD 149 #[(0, (Z.i 20))] w R fun t10 w =>
 bi ((Instr.makeInterface 149 t10).run Tryz.prog w) R fun t11 w =>
 bi ((Instr.panic t11).run Tryz.prog w) R fun _ w =>
 j1 (upd (upd (ini [a0]) 2 (Z.u 0)) 9 t9) w)
 (j1 (upd (upd (ini [a0]) 2 (Z.u 0)) 9 t9) w)) fun e1 g1 w =>
 df a0 w fun t13 w =>
 oG 152 t13 0 24 w R fun t15 w =>
 oI 24 t15 (Z.i 0) w R fun t16 w =>
 oL 5 t16 w R fun t17 w =>
 df a0 w fun t20 w =>
 oG 152 t20 0 24 w R fun t22 w =>
 bi ((Instr.sliceAt 24 t22 (some (Z.i 1)) none none).run Tryz.prog w) R fun t23 w =>
 df a0 w fun t24 w =>
 oF 152 t24 0 w R fun t25 w =>
 oS 24 t25 t23 w R fun _ w =>
 R (.returned t17) w
theorem F95.calls {R w a0} : F95 R w a0 → oX 95 #[a0] w R := Z.k [0,2,3,9]
def F96 (a0 : Value) : Prop :=
 oC 95 #[a0] w R fun t5 w =>
 oC 95 #[a0] w R fun t8 w =>
 oC 138 #[t5, t8] w R fun t9 w =>
 R (.returned t9) w
theorem F96.calls {R w a0} : F96 R w a0 → oX 96 #[a0] w R := Z.k [0,2,3]
def F97 (a0 : Value) : Prop :=
 oA 54 w R fun t2 w =>
 join (upd (upd (ini [a0]) 2 t2) 3 (Z.i (-1))) (fun j1 =>
 df a0 w fun t5 w =>
 oG 152 t5 0 24 w R fun t7 w =>
 oI 24 t7 (Z.i 0) w R fun t8 w =>
 oL 5 t8 w R fun t9 w =>
 oQ true .eql 5 t9 (Z.u 17) w R fun t10 w =>
 cond t10 (oC 95 #[a0] w R fun t12 w =>
 oC 96 #[a0] w R fun t14 w =>
 j1 (upd (upd (upd (upd (ini [a0]) 2 t2) 3 (Z.i (-1))) 10 t10) 3 t14) w)
 (j1 (upd (upd (upd (ini [a0]) 2 t2) 3 (Z.i (-1))) 10 t10) w)) fun e1 g1 w =>
 oC 139 #[a0] w R fun t17 w =>
 oD 54 #[(0, (g1 3)), (1, t17)] w R fun t18 w =>
 oS 54 t2 t18 w R fun _ w =>
 jo ((Instr.loadAt 54 t2).run Tryz.prog w) w fun r0 =>
 R (.returned r0) w
theorem F97.calls {R w a0} : F97 R w a0 → oX 97 #[a0] w R := Z.k [0,2,3,10]
def F98 (a0 : Value) : Prop :=
 bi ((Instr.box 33 a0).run Tryz.prog w) (gz R) fun t1 w =>
 bi ((Instr.alloc 24 true (.tuple #[])).run Tryz.prog w) (gz R) fun t3 w =>
 join (upd (upd (upd (ini [a0]) 1 t1) 2 (.slice none 0 0)) 3 t3) (fun j1 =>
 bi ((Instr.loadAt 33 t1).run Tryz.prog w) (gz R) fun t7 w =>
 lh Tryz.prog 135 #[t7] w (gz R) fun t8 w =>
 wV Tryz.prog t8 1 w (fun l2 xs2 w mid2 fin2 =>
 oA 173 w aZ fun t4 w =>
 oS 173 t4 (xs2.getD 0 undef) w aZ fun _ w =>
 mid2 (fun w => oF 173 t4 2 w aZ fun t10 w =>
 oL 5 t10 w aZ fun t11 w =>
 oC 140 #[t11] w aZ fun t12 w =>
 oU t12 w aZ fun t13 w =>
 cond t13 (fin2 .normal w)
 (drawn w fun T w =>
 bJ T w (fun w K => oL 24 t3 w aZ K) fun t14 =>
 bJ T w (fun w K => oL 33 t1 w aZ K) fun t17 =>
 bJ T w (fun w K => oL 33 t1 w aZ K) fun t18 =>
 qG T w 173 t4 0 3 fun t21 =>
 ext w fun w =>
 zA T w (fun w K => bi ((Instr.buildSlice 24 1 #[(0, (Z.u 17))]).run Tryz.prog w) aZ K) fun t15 w =>
 ext w fun w =>
 zA T w (fun w K => bi ((Builtin.append_ #[24, 24] 24 #[t14, t15]).run Tryz.prog w) aZ K) fun t16 w =>
 bJ T w (fun w K => oC 112 #[t18] w aZ K) fun t19 =>
 bJ T w (fun w K => oC 111 #[t19, t21, (Z.i 1)] w aZ K) fun t22 =>
 ext w fun w =>
 oC 67 #[t17, t22] w aZ fun t23 w =>
 ext w fun w =>
 bi ((Builtin.append_ #[24, 24] 24 #[t16, t23]).run Tryz.prog w) aZ fun t24 w =>
 ext w fun w =>
 oS 24 t3 t24 w aZ fun _ w =>
 ext w fun w =>
 oL 33 t1 w aZ fun t25 w =>
 oL 173 t4 w aZ fun t26 w =>
 oC 141 #[t25, t26] w aZ fun t27 w =>
 PL Tryz.prog t27 1 l2 w (fun l3 xs3 w mid3 fin3 =>
 mid3 (fun w => oL 33 t1 w aZ fun t29 w =>
 oC 31 #[t29, (xs3.getD 0 undef)] w aZ fun t31 w =>
 oA 37 w aZ fun t6 w =>
 oS 37 t6 t31 w aZ fun _ w =>
 oL 37 t6 w aZ fun t32 w =>
 oC 142 #[t32] w aZ fun t33 w =>
 oU t33 w aZ fun t34 w =>
 cond t34 (drawn w fun T w =>
 bJ T w (fun w K => oL 24 t3 w aZ K) fun t35 =>
 bJ Ext w (fun w K => oL 37 t6 w aZ K) fun t36 =>
 ext w fun w =>
 zA T w (fun w K => oC 69 #[t36] w aZ K) fun t37 w =>
 ext w fun w =>
 bi ((Builtin.append_ #[24, 24] 24 #[t35, t37]).run Tryz.prog w) aZ fun t38 w =>
 ext w fun w =>
 oS 24 t3 t38 w aZ fun _ w =>
 ext w fun w =>
 fin3 .normal w)
 (fin3 .normal w)) w)
 (fun w => fin2 .normal w)
 [])) w)
 (fun D w => j1 (upd (upd (upd (upd (upd (ini [a0]) 1 t1) 2 (.slice none 0 0)) 3 t3) 8 t8) 1000000 (mkV D undef)) w)
 []) fun e1 g1 w =>
 bi ((Instr.loadAt 24 t3).run Tryz.prog w) (gz R) fun t39 w =>
 mG (yX (g1 1000000)) w fun w => R (.returned t39) w
theorem F98.calls {R w a0} : F98 R w a0 → oX 98 #[a0] w R := Z.k [0,1,2,3,4,5,6,8,9,13,27,28,34]
def F99 (a0 : Value) : Prop :=
 join (upd (upd (ini [a0]) 2 (.slice none 0 0)) 3 (.slice none 0 0)) (fun j1 =>
 oC 30 #[a0] w R fun t7 w =>
 loop (upd (upd (upd (upd (ini [a0]) 2 (.slice none 0 0)) 3 (.slice none 0 0)) 7 t7) 8 (Z.i 0)) w fun e2 g2 w j2 =>
 oP .lss 3 (g2 8) t7 w R fun t9 w =>
 cond t9 (join (upd (mix [9,4,5,16,3,8] g2 e2) 9 t9) (fun j3 =>
 oC 31 #[a0, (g2 8)] w R fun t13 w =>
 oA 37 w R fun t5 w =>
 oS 37 t5 t13 w R fun _ w =>
 oL 37 t5 w R fun t14 w =>
 oC 142 #[t14] w R fun t15 w =>
 oU t15 w R fun t16 w =>
 cond t16 (oL 37 t5 w R fun t18 w =>
 oC 69 #[t18] w R fun t19 w =>
 bi ((Builtin.append_ #[24, 24] 24 #[(g2 3), t19]).run Tryz.prog w) R fun t20 w =>
 j3 (upd (upd (upd (upd (upd (mix [9,4,5,16,3,8] g2 e2) 9 t9) 4 (g2 8)) 5 t5) 16 t16) 3 t20) w)
 (j3 (upd (upd (upd (upd (mix [9,4,5,16,3,8] g2 e2) 9 t9) 4 (g2 8)) 5 t5) 16 t16) w)) fun e3 g3 w =>
 oP .add 3 (g2 8) (Z.i 1) w R fun t21 w =>
 j2 (upd (mix [4,5,16,3] g3 e3) 8 t21) w)
 (j1 (upd (mix [9,4,5,16,3,8] g2 e2) 9 t9) w)) fun e1 g1 w =>
 R (.returned (g1 3)) w
theorem F99.calls {R w a0} : F99 R w a0 → oX 99 #[a0] w R := Z.k [0,2,3,4,5,7,8,9,16]
def aaQ (a0 a1 a2 : Value) : Prop :=
 oB 32 a0 w R fun t3 w =>
 oL 32 t3 w R fun t8 w =>
 oC 43 #[t8] w R fun t9 w =>
 oQ true .eql 3 t9 (Z.i 0) w R fun t11 w =>
 cond t11 (R (.returned (Z.i 0)) w)
 (drawn w fun T w =>
 bJ T w (fun w K => oP .rem 3 a1 t9 w aZ K) fun t14 =>
 bJ T w (fun w K => oP .rem 3 a2 t9 w aZ K) fun t17 =>
 bJ T w (fun w K => oP .add 3 t14 t17 w aZ K) fun t18 =>
 bJ T w (fun w K => oP .rem 3 t18 t9 w aZ K) fun t20 =>
 bJ T w (fun w K => oP .add 3 t20 t9 w aZ K) fun t22 =>
 bJ T w (fun w K => oP .rem 3 t22 t9 w aZ K) fun t24 =>
 ext w fun w =>
 R (.returned t24) w)
theorem aaQ.calls {R w a0 a1 a2} : aaQ R w a0 a1 a2 → oX 111 #[a0, a1, a2] w R := Z.k [0,1,2,3,6,7,11]
def aaR (a0 : Value) : Prop :=
 oA 32 w R fun t2 w =>
 df a0 w fun t4 w =>
 oG 91 t4 0 32 w R fun t6 w =>
 oS 32 t2 t6 w R fun _ w =>
 jo ((Instr.loadAt 32 t2).run Tryz.prog w) w fun r0 =>
 R (.returned r0) w
theorem aaR.calls {R w a0} : aaR R w a0 → oX 112 #[a0] w R := Z.k [0,2]
def aaS (a0 a1 : Value) : Prop :=
 oA 168 w R fun t4 w =>
 oP .lss 3 a1 (Z.i 1) w R fun t8 w =>
 gd t8 false (fun K => K a1 w) w fun t10 w =>
 gd t8 false (fun K => oP .gtr 3 t10 (Z.i 16384) w R K) w fun t11 w =>
 pick t8 (.bool true) t11 w fun t12 w =>
 gd t12 false (fun K => K a0 w) w fun t14 w =>
 gd t12 false (fun K => oP .lss 3 t14 (Z.i 0) w R K) w fun t15 w =>
 pick t12 (.bool true) t15 w fun t16 w =>
 gd t16 false (fun K => K a0 w) w fun t18 w =>
 gd t16 false (fun K => K a1 w) w fun t19 w =>
 gd t16 false (fun K => oP .geq 3 t18 t19 w R K) w fun t20 w =>
 pick t16 (.bool true) t20 w fun t21 w =>
 cond t21 (oD 168 #[] w R fun t22 w =>
 oS 168 t4 t22 w R fun _ w =>
 jo ((Instr.loadAt 168 t4).run Tryz.prog w) w fun r0 =>
 R (.returned (.tuple #[r0, (Z.i 1)])) w)
 (oP .gtr 3 a1 (Z.i 4096) w R fun t25 w =>
 cond t25 (oP .shr 3 a0 (.int .u64 8) w R fun t27 w =>
 bi ((convert 3 5 t27).run Tryz.prog w) R fun t28 w =>
 bi ((convert 3 5 a0).run Tryz.prog w) R fun t30 w =>
 oD 168 #[(0, t28), (1, t30)] w R fun t31 w =>
 oS 168 t4 t31 w R fun _ w =>
 jo ((Instr.loadAt 168 t4).run Tryz.prog w) w fun r0 =>
 R (.returned (.tuple #[r0, (Z.i 0)])) w)
 (oP .shr 3 a0 (.int .u64 6) w R fun t33 w =>
 oC 114 #[t33] w R fun t34 w =>
 oC 114 #[a0] w R fun t36 w =>
 oD 168 #[(0, t34), (1, t36)] w R fun t37 w =>
 oS 168 t4 t37 w R fun _ w =>
 jo ((Instr.loadAt 168 t4).run Tryz.prog w) w fun r0 =>
 R (.returned (.tuple #[r0, (Z.i 0)])) w))
theorem aaS.calls {R w a0 a1} : aaS R w a0 a1 → oX 113 #[a0, a1] w R := Z.k [0,1,4,5,6,23]
def aaT (a0 : Value) : Prop :=
 oP .and 3 a0 (Z.i 63) w R fun t5 w =>
 oP .rem 3 t5 (Z.i 16) w R fun t7 w =>
 oP .geq 3 t7 (Z.i 1) w R fun t9 w =>
 gd t9 true (fun K => K t7 w) w fun t11 w =>
 gd t9 true (fun K => oP .leq 3 t11 (Z.i 9) w R K) w fun t12 w =>
 pick t9 t12 (.bool false) w fun t13 w =>
 gd t13 true (fun K => K t5 w) w fun t15 w =>
 gd t13 true (fun K => oQ true .neq 3 t15 (Z.i 33) w R K) w fun t16 w =>
 pick t13 t16 (.bool false) w fun t17 w =>
 gd t17 false (fun K => K t5 w) w fun t19 w =>
 gd t17 false (fun K => oQ true .eql 3 t19 (Z.i 48) w R K) w fun t20 w =>
 pick t17 (.bool true) t20 w fun t21 w =>
 cond t21 (oP .or 3 (Z.i 192) t5 w R fun t23 w =>
 bi ((convert 3 5 t23).run Tryz.prog w) R fun t24 w =>
 R (.returned t24) w)
 (oP .or 3 (Z.i 64) t5 w R fun t26 w =>
 bi ((convert 3 5 t26).run Tryz.prog w) R fun t27 w =>
 R (.returned t27) w)
theorem aaT.calls {R w a0} : aaT R w a0 → oX 114 #[a0] w R := Z.k [0,2,3,21]
def aaU (a0 : Value) : Prop :=
 join (upd (upd (ini [a0]) 2 (.bool false)) 3 a0) (fun j1 =>
 oQ true .eql 5 a0 (Z.u 0) w R fun t5 w =>
 cond t5 (j1 (upd (upd (upd (ini [a0]) 2 (.bool false)) 3 a0) 4 t5) w)
 (oQ true .eql 5 a0 (Z.u 12) w R fun t6 w =>
 cond t6 (j1 (upd (upd (upd (upd (ini [a0]) 2 (.bool false)) 3 a0) 4 t5) 4 t6) w)
 (oQ true .eql 5 a0 (Z.u 13) w R fun t7 w =>
 cond t7 (j1 (upd (upd (upd (upd (upd (ini [a0]) 2 (.bool false)) 3 a0) 4 t5) 4 t6) 4 t7) w)
 (oQ true .eql 5 a0 (Z.u 21) w R fun t8 w =>
 cond t8 (j1 (upd (upd (upd (upd (upd (upd (ini [a0]) 2 (.bool false)) 3 a0) 4 t5) 4 t6) 4 t7) 4 t8) w)
 (oQ true .eql 5 a0 (Z.u 25) w R fun t9 w =>
 cond t9 (j1 (upd (upd (upd (upd (upd (upd (upd (ini [a0]) 2 (.bool false)) 3 a0) 4 t5) 4 t6) 4 t7) 4 t8) 4 t9) w)
 (oQ true .eql 5 a0 (Z.u 28) w R fun t10 w =>
 cond t10 (j1 (upd (upd (upd (upd (upd (upd (upd (upd (ini [a0]) 2 (.bool false)) 3 a0) 4 t5) 4 t6) 4 t7) 4 t8) 4 t9) 4 t10) w)
 (oQ true .eql 5 a0 (Z.u 30) w R fun t11 w =>
 cond t11 (j1 (upd (upd (upd (upd (upd (upd (upd (upd (upd (ini [a0]) 2 (.bool false)) 3 a0) 4 t5) 4 t6) 4 t7) 4 t8) 4 t9) 4 t10) 4 t11) w)
 (oQ true .eql 5 a0 (Z.u 63) w R fun t12 w =>
 j1 (upd (upd (upd (upd (upd (upd (upd (upd (upd (upd (ini [a0]) 2 (.bool false)) 3 a0) 4 t5) 4 t6) 4 t7) 4 t8) 4 t9) 4 t10) 4 t11) 4 t12) w)))))))) fun e1 g1 w =>
 cond (g1 4) (R (.returned (.bool true)) w)
 (oP .geq 5 a0 (Z.u 64) w R fun t14 w =>
 R (.returned t14) w)
theorem aaU.calls {R w a0} : aaU R w a0 → oX 115 #[a0] w R := Z.k [0,2,3,4]
def aaV (a0 a1 : Value) : Prop :=
 oA 173 w R fun t4 w =>
 oC 29 #[a0, a1] w R fun t9 w =>
 oP .lss 3 t9 (Z.i 0) w R fun t11 w =>
 cond t11 (oD 173 #[] w R fun t12 w =>
 oS 173 t4 t12 w R fun _ w =>
 jo ((Instr.loadAt 173 t4).run Tryz.prog w) w fun r0 =>
 R (.returned (.tuple #[r0, (.bool false)])) w)
 (oC 154 #[a0, t9] w R fun t15 w =>
 oS 173 t4 t15 w R fun _ w =>
 jo ((Instr.loadAt 173 t4).run Tryz.prog w) w fun r0 =>
 R (.returned (.tuple #[r0, (.bool true)])) w)
theorem aaV.calls {R w a0 a1} : aaV R w a0 a1 → oX 116 #[a0, a1] w R := Z.k [0,1,4,5,6,11]
def aaW (a0 a1 : Value) : Prop :=
 oC 116 #[a0, a1] w R fun t10 w =>
 oE t10 0 w R fun t11 w =>
 oE t10 1 w R fun t12 w =>
 oA 173 w R fun t5 w =>
 oS 173 t5 t11 w R fun _ w =>
 oU t12 w R fun t14 w =>
 cond t14 (oP .geq 3 a1 (Z.i 0) w R fun t16 w =>
 gd t16 true (fun K => K a1 w) w fun t18 w =>
 gd t16 true (fun K => K a0 w) w fun t19 w =>
 gd t16 true (fun K => oC 30 #[t19] w R K) w fun t20 w =>
 gd t16 true (fun K => oP .lss 3 t18 t20 w R K) w fun t21 w =>
 pick t16 t21 (.bool false) w fun t22 w =>
 R (.returned t22) w)
 (oG 173 t5 0 3 w R fun t24 w =>
 oQ false .neq 3 t24 a1 w R fun t26 w =>
 gd t26 true (fun K => oF 173 t5 2 w R K) w fun t28 w =>
 gd t26 true (fun K => oL 5 t28 w R K) w fun t29 w =>
 gd t26 true (fun K => oC 136 #[t29] w R K) w fun t30 w =>
 gd t26 true (fun K => oU t30 w R K) w fun t31 w =>
 pick t26 t31 (.bool false) w fun t32 w =>
 R (.returned t32) w)
theorem aaW.calls {R w a0 a1} : aaW R w a0 a1 → oX 117 #[a0, a1] w R := Z.k [0,1,4,5,6,14]
def aaX (a0 : Value) : Prop :=
 oP .and 5 a0 (Z.u 16) w R fun t4 w =>
 oQ true .neq 5 t4 (Z.u 0) w R fun t5 w =>
 R (.returned t5) w
theorem aaX.calls {R w a0} : aaX R w a0 → oX 118 #[a0] w R := Z.k [0,2]
def QU (a0 a1 a2 : Value) : Prop :=
 oC 31 #[a0, a1] w R fun t9 w =>
 oA 37 w R fun t6 w =>
 oS 37 t6 t9 w R fun _ w =>
 oG 37 t6 0 5 w R fun t11 w =>
 oC 137 #[t11, a2] w R fun t13 w =>
 oF 37 t6 0 w R fun t14 w =>
 oS 5 t14 t13 w R fun _ w =>
 oL 37 t6 w R fun t17 w =>
 oC 14 #[a0, a1, t17] w R fun t18 w =>
 R (.returned (.tuple #[])) w
theorem QU.calls {R w a0 a1 a2} : QU R w a0 a1 a2 → oX 123 #[a0, a1, a2] w R := Z.k [0,1,2,6]
def aaY (a0 a1 : Value) : Prop :=
 oC 36 #[a0, a1] w R fun t7 w =>
 R (.returned a1) w
theorem aaY.calls {R w a0 a1} : aaY R w a0 a1 → oX 124 #[a0, a1] w R := Z.k [0,1,4]
def aaZ (a0 a1 a2 : Value) : Prop :=
 oC 112 #[a0] w R fun t8 w =>
 oC 111 #[t8, a1, a2] w R fun t11 w =>
 R (.returned t11) w
theorem aaZ.calls {R w a0 a1 a2} : aaZ R w a0 a1 a2 → oX 125 #[a0, a1, a2] w R := Z.k [0,1,2,6]
def aav (a0 : Value) : Prop :=
 oC 136 #[a0] w R fun t4 w =>
 gd t4 true (fun K => K a0 w) w fun t6 w =>
 gd t4 true (fun K => oC 118 #[t6] w R K) w fun t7 w =>
 pick t4 t7 (.bool false) w fun t8 w =>
 R (.returned t8) w
theorem aav.calls {R w a0} : aav R w a0 → oX 126 #[a0] w R := Z.k [0,2]
def aa0 (a0 : Value) : Prop :=
 oB 45 a0 w R fun t1 w =>
 oG 45 t1 0 3 w R fun t5 w =>
 oQ true .eql 3 t5 (Z.i 17) w R fun t6 w =>
 cond t6 (oG 45 t1 1 5 w R fun t8 w =>
 oC 40 #[t8] w R fun t9 w =>
 R (.returned t9) w)
 (oG 45 t1 0 3 w R fun t12 w =>
 oP .leq 3 t12 (Z.i 1) w R fun t13 w =>
 gd t13 false (fun K => oF 45 t1 0 w R K) w fun t15 w =>
 gd t13 false (fun K => oL 3 t15 w R K) w fun t16 w =>
 gd t13 false (fun K => oP .gtr 3 t16 (Z.i 17) w R K) w fun t17 w =>
 pick t13 (.bool true) t17 w fun t18 w =>
 cond t18 (R (.returned (.string ⟨#[]⟩)) w)
 (oG 45 t1 0 3 w R fun t20 w =>
 oI 221 (Z.p 0) t20 w R fun t21 w =>
 oL 9 t21 w R fun t22 w =>
 R (.returned t22) w))
theorem aa0.calls {R w a0} : aa0 R w a0 → oX 127 #[a0] w R := Z.k [0,1,2,3,10]
def aaq (a0 : Value) : Prop :=
 bi ((convert 5 21 a0).run Tryz.prog w) R fun t4 w =>
 oP .add 21 (.int .i32 57344) t4 w R fun t5 w =>
 R (.returned t5) w
theorem aaq.calls {R w a0} : aaq R w a0 → oX 129 #[a0] w R := Z.k [0,2]
def aa1 (a0 : Value) : Prop :=
 bi ((Instr.box 33 a0).run Tryz.prog w) (gz R) fun t1 w =>
 bi ((Instr.alloc 3 true (.tuple #[])).run Tryz.prog w) (gz R) fun t2 w =>
 join (upd (upd (ini [a0]) 1 t1) 2 t2) (fun j1 =>
 bi ((Instr.loadAt 33 t1).run Tryz.prog w) (gz R) fun t4 w =>
 lh Tryz.prog 135 #[t4] w (gz R) fun t5 w =>
 wV Tryz.prog t5 1 w (fun l2 xs2 w mid2 fin2 =>
 oA 173 w aZ fun t3 w =>
 oS 173 t3 (xs2.getD 0 undef) w aZ fun _ w =>
 mid2 (fun w => oF 173 t3 1 w aZ fun t7 w =>
 oL 3 t7 w aZ fun t8 w =>
 oP .gtr 3 t8 (Z.i 0) w aZ fun t9 w =>
 gd t9 true (fun K => oF 173 t3 2 w aZ K) w fun t11 w =>
 gd t9 true (fun K => oL 5 t11 w aZ K) w fun t12 w =>
 gd t9 true (fun K => oC 136 #[t12] w aZ K) w fun t13 w =>
 gd t9 true (fun K => oU t13 w aZ K) w fun t14 w =>
 pick t9 t14 (.bool false) w fun t15 w =>
 cond t15 (drawn w fun T w =>
 bJ T w (fun w K => oL 33 t1 w aZ K) fun t16 =>
 bJ T w (fun w K => oC 112 #[t16] w aZ K) fun t17 =>
 qG T w 173 t3 0 3 fun t19 =>
 bJ T w (fun w K => oC 111 #[t17, t19, (Z.i 1)] w aZ K) fun t20 =>
 ext w fun w =>
 oS 3 t2 t20 w aZ fun _ w =>
 ext w fun w =>
 fin2 .ret w)
 (fin2 .normal w)) w)
 (fun D w => j1 (upd (upd (upd (upd (ini [a0]) 1 t1) 2 t2) 5 t5) 1000000 (mkV D undef)) w)
 [(0, fun D w => mG (yX (mkV D undef)) w fun w => jo ((Instr.loadAt 3 t2).run Tryz.prog w) w fun r0 =>
 R (.returned r0) w)]) fun e1 g1 w =>
 uw ((Instr.storeAt 3 t2 (Z.i 0)).run Tryz.prog w) (gz R) fun _ w =>
 mG (yX (g1 1000000)) w fun w => jo ((Instr.loadAt 3 t2).run Tryz.prog w) w fun r0 =>
 R (.returned r0) w
theorem aa1.calls {R w a0} : aa1 R w a0 → oX 133 #[a0] w R := Z.k [0,1,2,3,5,6,15]
def aa2 (a0 : Value) : Prop :=
 oB 33 a0 w R fun t1 w =>
 bi ((Instr.makeFunc (.func 158) #[] #[t1]).run Tryz.prog w) R fun t3 w =>
 R (.returned t3) w
theorem aa2.calls {R w a0} : aa2 R w a0 → oX 135 #[a0] w R := Z.k [0,1,2]
def aa3 (a0 : Value) : Prop :=
 oP .and 5 a0 (Z.u 32) w R fun t4 w =>
 oQ true .neq 5 t4 (Z.u 0) w R fun t5 w =>
 R (.returned t5) w
theorem aa3.calls {R w a0} : aa3 R w a0 → oX 136 #[a0] w R := Z.k [0,2]
def QV (a0 a1 : Value) : Prop :=
 cond a1 (oP .or 5 a0 (Z.u 1) w R fun t7 w =>
 R (.returned t7) w)
 (oP .andNot 5 a0 (Z.u 1) w R fun t9 w =>
 R (.returned t9) w)
theorem QV.calls {R w a0 a1} : QV R w a0 a1 → oX 137 #[a0, a1] w R := Z.k [0,1,4,5]
def aa4 (a0 a1 : Value) : Prop :=
 oP .andNot 5 a0 (Z.u 63) w R fun t6 w =>
 oQ true .eql 5 t6 (Z.u 0) w R fun t7 w =>
 cond t7 (bi ((convert 5 3 a0).run Tryz.prog w) R fun t9 w =>
 oP .shl 3 t9 (.int .u64 8) w R fun t10 w =>
 bi ((convert 5 3 a1).run Tryz.prog w) R fun t12 w =>
 oP .or 3 t10 t12 w R fun t13 w =>
 R (.returned t13) w)
 (oC 159 #[a0] w R fun t15 w =>
 oP .shl 3 t15 (.int .u64 6) w R fun t16 w =>
 oC 159 #[a1] w R fun t18 w =>
 oP .or 3 t16 t18 w R fun t19 w =>
 R (.returned t19) w)
theorem aa4.calls {R w a0 a1} : aa4 R w a0 a1 → oX 138 #[a0, a1] w R := Z.k [0,1,4,7]
def aa5 (a0 : Value) : Prop :=
 join (upd (upd (ini [a0]) 2 (.slice none 0 0)) 3 (.slice none 0 0)) (fun j1 =>
 loop (upd (upd (ini [a0]) 2 (.slice none 0 0)) 3 (.slice none 0 0)) w fun e2 g2 w j2 =>
 df a0 w fun t5 w =>
 oG 152 t5 0 24 w R fun t7 w =>
 oN 24 t7 w R fun t8 w =>
 oP .gtr 3 t8 (Z.i 0) w R fun t9 w =>
 gd t9 true (fun K => K a0 w) w fun t11 w =>
 gd t9 true (fun K => df t11 w K) w fun t12 w =>
 gd t9 true (fun K => oF 152 t12 0 w R K) w fun t13 w =>
 gd t9 true (fun K => oL 24 t13 w R K) w fun t14 w =>
 gd t9 true (fun K => oI 24 t14 (Z.i 0) w R K) w fun t15 w =>
 gd t9 true (fun K => oL 5 t15 w R K) w fun t16 w =>
 gd t9 true (fun K => oQ true .neq 5 t16 (Z.u 17) w R K) w fun t17 w =>
 pick t9 t17 (.bool false) w fun t18 w =>
 cond t18 (oC 160 #[a0] w R fun t21 w =>
 bi ((Instr.buildSlice 52 1 #[(0, t21)]).run Tryz.prog w) R fun t22 w =>
 bi ((Builtin.append_ #[52, 52] 52 #[(g2 3), t22]).run Tryz.prog w) R fun t23 w =>
 j2 (upd (upd (mix [18,3] g2 e2) 18 t18) 3 t23) w)
 (j1 (upd (mix [18,3] g2 e2) 18 t18) w)) fun e1 g1 w =>
 R (.returned (g1 3)) w
theorem aa5.calls {R w a0} : aa5 R w a0 → oX 139 #[a0] w R := Z.k [0,2,3,18]
def aa6 (a0 : Value) : Prop :=
 oP .and 5 a0 (Z.u 1) w R fun t4 w =>
 oQ true .neq 5 t4 (Z.u 0) w R fun t5 w =>
 R (.returned t5) w
theorem aa6.calls {R w a0} : aa6 R w a0 → oX 140 #[a0] w R := Z.k [0,2]
def aa7 (a0 a1 : Value) : Prop :=
 oB 33 a0 w R fun t2 w =>
 oB 173 a1 w R fun t3 w =>
 bi ((Instr.makeFunc (.func 161) #[] #[t3, t2]).run Tryz.prog w) R fun t5 w =>
 R (.returned t5) w
theorem aa7.calls {R w a0 a1} : aa7 R w a0 a1 → oX 141 #[a0, a1] w R := Z.k [0,1,2,3,4]
def aa8 (a0 : Value) : Prop :=
 oB 37 a0 w R fun t1 w =>
 oG 37 t1 0 5 w R fun t4 w =>
 oQ true .eql 5 t4 (Z.u 0) w R fun t5 w =>
 gd t5 true (fun K => oF 37 t1 1 w R K) w fun t7 w =>
 gd t5 true (fun K => oL 4 t7 w R K) w fun t8 w =>
 gd t5 true (fun K => oU t8 w R K) w fun t9 w =>
 pick t5 t9 (.bool false) w fun t10 w =>
 R (.returned t10) w
theorem aa8.calls {R w a0} : aa8 R w a0 → oX 142 #[a0] w R := Z.k [0,1,2]
def aa9 (a0 a1 : Value) : Prop :=
 oA 173 w R fun t4 w =>
 oC 173 #[a0, a1] w R fun t8 w =>
 oP .sub 3 t8 a1 w R fun t10 w =>
 oP .sub 3 t10 (Z.i 1) w R fun t11 w =>
 join (upd (upd (ini [a0, a1]) 4 t4) 5 t11) (fun j1 =>
 oP .lss 3 t11 (Z.i 0) w R fun t13 w =>
 cond t13 (oC 30 #[a0] w R fun t16 w =>
 oP .add 3 t11 t16 w R fun t17 w =>
 j1 (upd (upd (upd (upd (ini [a0, a1]) 4 t4) 5 t11) 13 t13) 5 t17) w)
 (j1 (upd (upd (upd (ini [a0, a1]) 4 t4) 5 t11) 13 t13) w)) fun e1 g1 w =>
 oC 31 #[a0, a1] w R fun t22 w =>
 bi ((Instr.field 37 t22 0).run Tryz.prog w) R fun t23 w =>
 oP .and 5 t23 (Z.u 63) w R fun t24 w =>
 oD 173 #[(0, a1), (1, (g1 5)), (2, t24)] w R fun t25 w =>
 oS 173 t4 t25 w R fun _ w =>
 jo ((Instr.loadAt 173 t4).run Tryz.prog w) w fun r0 =>
 R (.returned r0) w
theorem aa9.calls {R w a0 a1} : aa9 R w a0 a1 → oX 154 #[a0, a1] w R := Z.k [0,1,4,5,13]
def aba (a0 a1 : Value) : Prop :=
 oL 33 a1 w R fun t4 w =>
 oC 30 #[t4] w R fun t5 w =>
 loop (upd (upd (ini [a0, a1]) 5 t5) 6 (Z.i 0)) w fun e1 g1 w j1 =>
 oP .lss 3 (g1 6) t5 w R fun t7 w =>
 cond t7 (oL 33 a1 w R fun t9 w =>
 oC 31 #[t9, (g1 6)] w R fun t11 w =>
 bi ((Instr.field 37 t11 2).run Tryz.prog w) R fun t12 w =>
 gd t12 true (fun K => K a0 w) w fun t14 w =>
 gd t12 true (fun K => oL 33 a1 w R K) w fun t15 w =>
 gd t12 true (fun K => K (g1 6) w) w fun t16 w =>
 gd t12 true (fun K => oC 154 #[t15, t16] w R K) w fun t17 w =>
 gd t12 true (fun K => CV Tryz.prog t14 #[t17] w R K) w fun t18 w =>
 gd t12 true (fun K => oU t18 w R K) w fun t19 w =>
 pick t12 t19 (.bool false) w fun t20 w =>
 cond t20 (R (.returned (.tuple #[])) w)
 (oP .add 3 (g1 6) (Z.i 1) w R fun t21 w =>
 j1 (upd (upd (upd (upd (mix [7,3,20,6] g1 e1) 7 t7) 3 (g1 6)) 20 t20) 6 t21) w))
 (R (.returned (.tuple #[])) w)
theorem aba.calls {R w a0 a1} : aba R w a0 a1 → oX 158 #[a0, a1] w R := Z.k [0,1,3,5,6,7,20]
def abb (a0 : Value) : Prop :=
 oP .and 5 a0 (Z.u 63) w R fun t4 w =>
 bi ((convert 5 3 t4).run Tryz.prog w) R fun t5 w =>
 R (.returned t5) w
theorem abb.calls {R w a0} : abb R w a0 → oX 159 #[a0] w R := Z.k [0,2]
def abd (a0 : Value) : Prop :=
 oA 37 w R fun t2 w =>
 oC 95 #[a0] w R fun t5 w =>
 oC 115 #[t5] w R fun t7 w =>
 cond t7 (oD 37 #[(0, t5)] w R fun t9 w =>
 oS 37 t2 t9 w R fun _ w =>
 jo ((Instr.loadAt 37 t2).run Tryz.prog w) w fun r0 =>
 R (.returned r0) w)
 (join (upd (upd (upd (ini [a0]) 2 t2) 3 t5) 7 t7) (fun j1 =>
 oQ true .neq 5 t5 (Z.u 8) w R fun t11 w =>
 cond t11 (oD 149 #[(0, (Z.i 21))] w R fun t12 w =>
 bi ((Instr.makeInterface 149 t12).run Tryz.prog w) R fun t13 w =>
 bi ((Instr.panic t13).run Tryz.prog w) R fun _ w =>
 j1 (upd (upd (upd (upd (ini [a0]) 2 t2) 3 t5) 7 t7) 11 t11) w)
 (j1 (upd (upd (upd (upd (ini [a0]) 2 t2) 3 t5) 7 t7) 11 t11) w)) fun e1 g1 w =>
 join (mix [11] g1 e1) (fun j2 =>
 oC 95 #[a0] w R fun t15 w =>
 oP .lss 5 t15 (Z.u 64) w R fun t17 w =>
 cond t17 (oD 149 #[(0, (Z.i 21))] w R fun t18 w =>
 bi ((Instr.makeInterface 149 t18).run Tryz.prog w) R fun t19 w =>
 bi ((Instr.panic t19).run Tryz.prog w) R fun _ w =>
 j2 (upd (upd (mix [11] g1 e1) 3 t15) 17 t17) w)
 (j2 (upd (upd (mix [11] g1 e1) 3 t15) 17 t17) w)) fun e2 g2 w =>
 oD 37 #[(0, (g2 3)), (1, (.bool true))] w R fun t21 w =>
 oS 37 t2 t21 w R fun _ w =>
 jo ((Instr.loadAt 37 t2).run Tryz.prog w) w fun r0 =>
 R (.returned r0) w)
theorem abd.calls {R w a0} : abd R w a0 → oX 160 #[a0] w R := Z.k [0,2,3,7,11,17]
def QR (a0 a1 a2 : Value) : Prop :=
 drawn w fun T w =>
 qG T w 173 a1 0 3 fun t6 =>
 bJ T w (fun w K => oP .lss 3 t6 (Z.i 0) w aZ K) fun t7 =>
 bJ T w (fun w K => gd t7 false (fun K => oF 173 a1 0 w aZ K) w K) fun t9 =>
 bJ T w (fun w K => gd t7 false (fun K => oL 3 t9 w aZ K) w K) fun t10 =>
 bJ T w (fun w K => gd t7 false (fun K => oL 33 a2 w aZ K) w K) fun t11 =>
 bJ T w (fun w K => gd t7 false (fun K => oC 30 #[t11] w aZ K) w K) fun t12 =>
 bJ T w (fun w K => gd t7 false (fun K => oP .geq 3 t10 t12 w aZ K) w K) fun t13 =>
 bJ T w (fun w K => pick t7 (.bool true) t13 w K) fun t14 =>
 ext w fun w =>
 cond t14 (R (.returned (.tuple #[])) w)
 (drawn w fun T w =>
 qG T w 173 a1 1 3 fun t16 =>
 bJ T w (fun w K => bi ((Builtin.max_ #[3, 3] 3 #[t16, (Z.i 0)]).run Tryz.prog w) aZ K) fun t17 =>
 bJ T w (fun w K => oL 33 a2 w aZ K) fun t18 =>
 bJ T w (fun w K => oC 30 #[t18] w aZ K) fun t19 =>
 bJ T w (fun w K => bi ((Builtin.min_ #[3, 3] 3 #[t17, t19]).run Tryz.prog w) aZ K) fun t20 =>
 ext w fun w =>
 loop (upd (upd (upd (ini [a0, a1, a2]) 14 t14) 20 t20) 21 (Z.i 0)) w fun e1 g1 w j1 =>
 oP .lss 3 (g1 21) t20 w R fun t22 w =>
 cond t22 (drawn w fun T w =>
 bJ T w (fun w K => oL 33 a2 w aZ K) fun t25 =>
 bJ T w (fun w K => oC 112 #[t25] w aZ K) fun t26 =>
 qG T w 173 a1 0 3 fun t28 =>
 bJ T w (fun w K => oP .add 3 (g1 21) (Z.i 1) w aZ K) fun t30 =>
 bJ T w (fun w K => oC 111 #[t26, t28, t30] w aZ K) fun t31 =>
 ext w fun w =>
 CV Tryz.prog a0 #[t31] w R fun t32 w =>
 bJ T w (fun w K => oU t32 w aZ K) fun t33 =>
 ext w fun w =>
 cond t33 (R (.returned (.tuple #[])) w)
 (oP .add 3 (g1 21) (Z.i 1) w R fun t34 w =>
 j1 (upd (upd (upd (upd (mix [22,4,33,21] g1 e1) 22 t22) 4 (g1 21)) 33 t33) 21 t34) w))
 (R (.returned (.tuple #[])) w))
theorem QR.calls {R w a0 a1 a2} : QR R w a0 a1 a2 → oX 161 #[a0, a1, a2] w R := Z.k [0,1,2,4,14,20,21,22,33]
def abe (a0 a1 : Value) : Prop :=
 oP .lss 3 a1 (Z.i 0) w R fun t6 w =>
 gd t6 false (fun K => K a1 w) w fun t8 w =>
 gd t6 false (fun K => K a0 w) w fun t9 w =>
 gd t6 false (fun K => oC 30 #[t9] w R K) w fun t10 w =>
 gd t6 false (fun K => oP .geq 3 t8 t10 w R K) w fun t11 w =>
 pick t6 (.bool true) t11 w fun t12 w =>
 cond t12 (R (.returned (Z.i (-1))) w)
 (oC 112 #[a0] w R fun t15 w =>
 oC 111 #[t15, a1, (Z.i 1)] w R fun t17 w =>
 oC 66 #[a0, t17, (Z.i 1)] w R fun t18 w =>
 R (.returned t18) w)
theorem abe.calls {R w a0 a1} : abe R w a0 a1 → oX 173 #[a0, a1] w R := Z.k [0,1,4,12]
end
end Go.Proofs.YtjdoakbadehicaaGreatDoor
end
