/-
  The shallow form of a loaded function gives the call's contract. No condition.
-/
import Derived.Test.YtjdoakbadehicaaGreatDoorSh
import Derived.Deep.LoopGhost
import Derived.TacticsIn
import Derived.OrdersIn
import Derived.RangeFuncRecord
import Derived.Sort.LoopGhostIn
namespace Go.Sh
open Go
variable {P : Program} {n : Nat} {kp : List Nat} {R : Ending → World → Prop}

theorem beq_iff (a b : Nat) : Nat.beq a b = true ↔ a = b := by rw [Nat.beq_eq]
theorem blt_iff (a b : Nat) : Nat.blt a b = true ↔ a < b := by unfold Nat.blt; rw [Nat.ble_eq]; exact Iff.rfl
theorem blt_ff {a b : Nat} (h : ¬ a < b) : Nat.blt a b = false := by
  cases hb : Nat.blt a b with
  | false => rfl
  | true => exact absurd ((blt_iff a b).1 hb) h
theorem beq_ff {a b : Nat} (h : a ≠ b) : Nat.beq a b = false := by
  cases hb : Nat.beq a b with
  | false => rfl
  | true => exact absurd ((beq_iff a b).1 hb) h
theorem upd_same (e : Env) (d : Nat) (v : Value) : upd e d v d = v := by simp [upd, (beq_iff d d).2 rfl]
theorem upd_ne (e : Env) {d s : Nat} (v : Value) (h : s ≠ d) : upd e d v s = e s := by simp [upd, beq_ff h]
theorem memN_mem (l : List Nat) (s : Nat) : memN l s = true ↔ s ∈ l := by
  induction l with
  | nil => simp [memN]
  | cons x xs ih =>
    by_cases h : x = s
    · subst h; simp [memN, (beq_iff x x).2 rfl]
    · have h' : s ≠ x := fun e => h e.symm
      simp [memN, beq_ff h, ih, h']

theorem dstOk_ne {d : Nat} (h : dstOk (some d) = true) : mkS ≠ d := by
  intro he
  subst he
  simp [dstOk, (beq_iff mkS mkS).2 rfl] at h
/-- The marks among the deferred calls. -/
def mkDf (v : Value) : List Deferred := (mkD v).map fun D => { target := .collected D, args := #[] }
theorem mkD_mkV (D : Nat) (v : Value) : mkD (mkV D v) = D :: mkD v := by
  cases v <;> simp [mkV, mkD, RowKit.intOf]
theorem mkDf_undef : mkDf undef = [] := rfl
/-- What the frame and the values by slots have to do with one another. -/
def RelW (n : Nat) (kp W : List Nat) (e : Env) (a : Act) : Prop :=
  a.defers = mkDf (e mkS) ∧ a.tmps.size = n ∧ ∀ t, t < n → memN kp t = true ∨ memN W t = true → a.tmps.getD t undef = e t
abbrev Rel (n : Nat) (kp : List Nat) (e : Env) (a : Act) : Prop := RelW n kp [] e a

theorem eval_of {W : List Nat} {e : Env} {a : Act} (h : RelW n kp W e a) (x : Operand) (hx : ∀ t, x = .tmp t → memN kp t = true ∨ memN W t = true) : a.eval x = ev n e x := by
  cases x with
  | tmp t =>
    simp only [Act.eval, ev, rd]
    by_cases ht : t < n
    · have : Nat.blt t n = true := (blt_iff t n).2 ht
      simp only [this]
      exact h.2.2 t ht (hx t rfl)
    · have : Nat.blt t n = false := blt_ff ht
      simp only [this]
      have h1 : a.tmps.size ≤ t := by rw [h.2.1]; exact Nat.le_of_not_lt ht
      simp [Array.getD, Nat.not_lt.2 h1]
  | const v => rfl
  | global g => rfl
  | func f => rfl

theorem put_rel {W : List Nat} {e : Env} {a : Act} (h : RelW n kp W e a) (d : Option Nat) (v : Value) :
    dstOk d = true → RelW n kp (match d with | some d => d :: W | none => W) (put e d v) (a.put d v) := by
  intro hd
  cases d with
  | none => exact h
  | some d =>
    refine ⟨by simp only [put, upd_ne e v (dstOk_ne hd)]; exact h.1, by simpa [Act.put] using h.2.1, fun t ht hk => ?_⟩
    by_cases htd : t = d
    · subst htd
      have : t < a.tmps.size := by rw [h.2.1]; exact ht
      simp [Act.put, put, upd_same, Array.getD, this]
    · have hk' : memN kp t = true ∨ memN W t = true := by
        rcases hk with hk | hk
        · exact .inl hk
        · refine .inr ?_
          simp only [memN, beq_ff (fun e => htd e.symm)] at hk
          exact hk
      have h0 := h.2.2 t ht hk'
      simp only [put, upd_ne e v htd]
      rw [← h0]
      simp only [Act.put]
      have hlt : t < a.tmps.size := by rw [h.2.1]; exact ht
      have hne : ¬ d = t := fun e => htd e.symm
      simp [Array.getD, hlt, Array.getElem_setIfInBounds, hne]

/-! ### One operation -/
/-- What is asked of what an operation comes to. -/
def uponK (P : Program) (yl : Bool) (K : Value → World → Prop) (R : Ending → World → Prop) : Result Next → Prop
  | .ok (.value v) w => K v w
  | .ok .skip w => K undef w
  | .ok (.enter f args) w => Calls P f args w fun | .returned v, w' => K v w' | .panicked c, w' => R (.panicked c) w' | .outgrown, _ => False
  | .ok (.round l f tmps assign body) w => yl = true ∧ RoundIn Fence.wide 0 P l f tmps assign body w fun | .returned v, w' => K v w' | .panicked c, w' => R (.panicked c) w' | .outgrown, _ => False
  | .halt (.panic v) w => R (.panicked [{ v, recovered := false }]) w
  | _ => False
theorem upon_of {o : Oper} {a : Act} {next : Act → World → Prop} {Q : Exit → Act → World → Prop} {K : Value → World → Prop} {r : Result Next}
    (hn : ∀ v w', K v w' → next (a.put o.dst v) w') (hR : ∀ c w', R (.panicked c) w' → Q (.panic c) a w') (h : uponK P false K R r) : o.upon P a next Q r := by
  cases r with
  | ok x w =>
    cases x <;> first
      | exact hn _ _ h
      | (refine Calls.mono h fun e w' he => ?_
         cases e with
         | returned v => exact hn _ _ he
         | panicked c => exact hR _ _ he
         | outgrown => exact he.elim)
      | exact (Bool.false_ne_true h.1).elim
      | exact h.elim
  | halt x w => cases x <;> first | exact hR _ _ h | exact h.elim
/-- The fence that lets all in, for an activation (none) or a round. -/
abbrev Fw (ro : Option Nat) : Fence := { Fence.wide with round := ro }
theorem callsIn_Fw {ro : Option Nat} {m : Nat} {f : FuncId} {args : Array Value} {w : World} {R : Ending → World → Prop} : CallsIn (Fw ro) m P f args w R ↔ Calls P f args w R := callsIn_wide (n := m)
theorem upon_ofIn {ro : Option Nat} {m : Nat} {yl : Bool} {o : Oper} {a : Act} {next : Act → World → Prop} {Q : Exit → Act → World → Prop} {K : Value → World → Prop} {r : Result Next}
    (hn : ∀ v w', K v w' → next (a.put o.dst v) w') (hR : ∀ c w', R (.panicked c) w' → Q (.panic c) a w') (h : uponK P yl K R r) : o.uponIn (Fw ro) m P a next Q r := by
  have hd : (Fw ro).depth.isSome = true → 1 ≤ m := fun h => by simp [Fence.wide] at h
  cases r with
  | ok x w =>
    cases x with
    | value v => exact hn _ _ h
    | skip => exact hn _ _ h
    | enter f args =>
      refine ⟨hd, callsIn_Fw.2 (Calls.mono h fun e w' he => ?_)⟩
      cases e with
      | returned v => exact hn _ _ he
      | panicked c => exact hR _ _ he
      | outgrown => exact he.elim
    | round l f tmps asn body =>
      obtain ⟨_, h2⟩ := h
      have h3 : RoundIn (Fw ro) (m - 1) P l f tmps asn body w _ := ⟨trivial, fun c cs _ => h2.2 c cs (room_wide _)⟩
      refine ⟨hd, h3.mono fun e w' he => ?_⟩
      cases e with
      | returned v => exact hn _ _ he
      | panicked c => exact hR _ _ he
      | outgrown => exact he.elim
    | _ => exact h.elim
  | halt x w => cases x <;> first | exact hR _ _ h | exact h.elim
section op
variable {K : Value → World → Prop} {w : World}
theorem opv_upon {yl : Bool} {s : Sem Value} (h : opv (s.run P w) R K) : uponK P yl K R ((do pure (Next.value (← s)) : Sem Next).run P w) := by
  simp only [Sem.run_bind]
  generalize s.run P w = r at *
  cases r with
  | ok v w' => exact h
  | halt x w' => cases x <;> first | exact h | exact h.elim
theorem opu_upon {yl : Bool} {s : Sem Unit} (h : opu (s.run P w) R K) : uponK P yl K R ((do s; pure Next.skip : Sem Next).run P w) := by
  simp only [Sem.run_bind]
  generalize s.run P w = r at *
  cases r with
  | ok v w' => exact h
  | halt x w' => cases x <;> first | exact h | exact h.elim
theorem callF_upon {yl : Bool} {g : FuncId} {args : Array Value} (hok : calleeOk P g = true) (h : callF P g args w R K) : uponK P yl K R ((callFunc g args).run P w) := by
  have hrun : (callFunc g args).run P w = .ok (.enter g args) w := by
    unfold calleeOk at hok
    cases hf : P.funcs[g]? with
    | none => simp [hf] at hok
    | some fn =>
      simp only [hf, Option.any_some, Bool.and_eq_true, Bool.not_eq_true'] at hok
      have h1 : ¬ fn.body = none := by intro hb; simp [hb] at hok
      have h2 : ¬ fn.name = "runtime.NumGoroutine" := by intro hb; simp [hb] at hok
      simp [callFunc, program, Sem.run_bind, Sem.run, Result.andThen, hf, h2, h1]
  rw [hrun]
  exact h
end op

theorem evs_eq (e : Env) (xs : Array Operand) : xs.map (ev n e) = (evs n e xs.toList).toArray := by
  have : ∀ l : List Operand, l.map (ev n e) = evs n e l := by
    intro l; induction l with
    | nil => rfl
    | cons x xs ih => simp [evs, ih]
  apply Array.toList_inj.1
  simp [this]
theorem evps_eq (e : Env) (xs : Array (Nat × Operand)) : (xs.map fun (i, x) => (i, ev n e x)) = (evps n e xs.toList).toArray := by
  have : ∀ l : List (Nat × Operand), (l.map fun (i, x) => (i, ev n e x)) = evps n e l := by
    intro l; induction l with
    | nil => rfl
    | cons x xs ih => obtain ⟨i, x⟩ := x; simp [evps, ih]
  apply Array.toList_inj.1
  simp [this]
theorem evo_eq (e : Env) (x : Option Operand) : x.map (ev n e) = evo n e x := by cases x <;> rfl

theorem eqGuard_none {op : BinOp} {t : TypeId} {x y : Operand} {a b : Value} (h : op ≠ .eql) (h' : op ≠ .neq) : eqGuard op t x y a b = pure () := by
  cases op <;> first | rfl | exact absurd rfl h | exact absurd rfl h'
theorem binE_eq (op : BinOp) (t : TypeId) (x y : Operand) (a b : Value) :
    (do eqGuard op t x y a b; binOp op t a b : Sem Value) = binE (isC x || isC y) op t a b := by
  unfold binE
  congr 1
  unfold eqGuard
  cases x <;> cases y <;> simp [isC] <;> rfl

theorem op_sound {yl : Bool} {o : Oper} {e : Env} {K : Value → World → Prop} {w : World} (h : shOp P n R yl o e w K) : uponK P yl K R ((execOp (ev n e) o).run P w) := by
  obtain ⟨dst, op, type, pos, after, guard⟩ := o
  cases op <;> simp only [shOp] at h <;> simp only [execOp]
  case move x => exact h
  case assign x => exact h
  case pick c x y =>
    cases hc : ev n e c with
    | bool t =>
      rw [hc] at h
      cases t <;> (simp only [pick] at h; simp [asBool, Sem.run_bind, Sem.run, Result.andThen, uponK]; exact h)
    | _ => rw [hc] at h; exact h.elim
  case nilCheck x =>
    cases hc : ev n e x with
    | pointer p =>
      rw [hc] at h
      cases p with
      | none => exact h.elim
      | some p => exact h
    | _ => rw [hc] at h; exact h.elim
  case binOp op t x y u =>
    cases op
    case eql => rw [← binE_eq] at h; exact opv_upon h
    case neq => rw [← binE_eq] at h; exact opv_upon h
    all_goals (rw [eqGuard_none (by simp) (by simp)]; exact opv_upon h)
  case call c =>
    obtain ⟨callee, args, argTypes⟩ := c
    cases callee with
    | invoke r m => exact h.elim
    | builtin b =>
      simp only [resolve]
      cases b <;> simp only [] at h <;> first
        | exact h.elim
        | (rw [← evs_eq] at h; exact opv_upon h)
    | value f =>
      cases f with
      | func g =>
        simp only [] at h
        split at h
        · rename_i hok
          rw [← evs_eq] at h
          have h2 : ((do let d ← resolve (ev n e) { callee := .value (.func g), args := args, argTypes := argTypes } type; invoke d.target d.args : Sem Next)) = callFunc g (args.map (ev n e)) := by
            simp [resolve, ev, Deferred.ofValue, invoke, bind, Sem.bind, pure]
          rw [h2]
          exact callF_upon hok h
        · exact h.elim
      | _ =>
        simp only [] at h
        rw [← evs_eq] at h
        simp only [resolve]
        revert h
        generalize ev n e _ = fv
        intro h
        cases yl with
        | false =>
          simp only [] at h
          unfold callV at h
          split at h
          · rename_i g first cap
            have h2 : ((do let d ← Deferred.ofValue (.func (.func g) first cap) (args.map (ev n e)); invoke d.target d.args : Sem Next)) = callFunc g (first ++ args.map (ev n e) ++ cap) := by
              simp [Deferred.ofValue, invoke, bind, Sem.bind, pure]
            rw [h2]
            exact callF_upon h.1 h.2
          · exact h.elim
        | true =>
          simp only [] at h
          unfold callY CallsV at h
          split at h
          · rename_i g first cap
            have h2 : ((do let d ← Deferred.ofValue (.func (.func g) first cap) (args.map (ev n e)); invoke d.target d.args : Sem Next)) = callFunc g (first ++ args.map (ev n e) ++ cap) := by
              simp [Deferred.ofValue, invoke, bind, Sem.bind, pure]
            rw [h2]
            exact callF_upon h.1 h.2
          · rename_i l first cap
            obtain ⟨rfl, rfl, fn, tmps, asn, body, hy, hr⟩ := h
            have h2 : ((do let d ← Deferred.ofValue (.func (.yield l) #[] #[]) (args.map (ev n e)); invoke d.target d.args : Sem Next)).run P w = .ok (.round l fn tmps asn body) w := by
              have : ((do let d ← Deferred.ofValue (.func (.yield l) #[] #[]) (args.map (ev n e)); invoke d.target d.args : Sem Next)) = Instr.yield l (args.map (ev n e)) := by
                simp [Deferred.ofValue, invoke, bind, Sem.bind, pure]
              rw [this]; exact hy
            rw [h2]
            exact ⟨rfl, hr⟩
          · exact h.elim
  all_goals first
    | exact h.elim
    | exact opv_upon h
    | exact opu_upon h
    | (rw [← evps_eq] at h; exact opv_upon h)
    | (rw [← evs_eq, ← evs_eq] at h; exact opv_upon h)
    | (rw [← evo_eq] at h; exact opv_upon h)
    | (rw [← evo_eq, ← evo_eq, ← evo_eq] at h; exact opv_upon h)

/-! ### A region in the order of its text -/
theorem allIn_spec {W : List Nat} : ∀ {l : List Nat}, allIn kp W l = true → ∀ t ∈ l, memN kp t = true ∨ memN W t = true
  | [], _, t, ht => by cases ht
  | x :: xs, h, t, ht => by
    simp only [allIn] at h
    cases hx : memN kp x with
    | true =>
      simp only [hx] at h
      rcases List.mem_cons.1 ht with rfl | ht
      · exact .inl hx
      · exact allIn_spec h t ht
    | false =>
      simp only [hx] at h
      cases hy : memN W x with
      | true =>
        simp only [hy] at h
        rcases List.mem_cons.1 ht with rfl | ht
        · exact .inr hy
        · exact allIn_spec h t ht
      | false => simp [hy] at h
theorem slotOf_eq (all : Array Oper) (j : Nat) : slotOf all j = (all[j]?).bind (·.dst) := by
  unfold slotOf; cases all[j]? <;> rfl

theorem eval_all {all : Array Oper} {o : Oper} {W : List Nat} {e : Env} {a : Act} (hr : RelW n kp W e a) (hl : allIn kp W (looks all o) = true) (hs : isSel o = false) :
    execOp a.eval o = execOp (ev n e) o := by
  refine execOp_congr o ?_ fun x hx => eval_of hr x fun t ht => allIn_spec hl t ?_
  · intro cs b hb; simp [isSel, hb] at hs
  · subst ht
    exact List.mem_append_left _ (List.mem_filterMap.2 ⟨.tmp t, by simpa using hx, rfl⟩)
theorem yielded_eq {all : Array Oper} {W : List Nat} {e : Env} {a : Act} {j t : Nat} (hr : RelW n kp W e a) (hs : slotOf all j = some t) (hk : memN kp t = true ∨ memN W t = true) :
    yielded all a.tmps j = match rd n e t with | .bool b => some b | _ => none := by
  have h1 := eval_of hr (.tmp t) (fun t' h => by cases h; exact hk)
  simp only [Act.eval, ev] at h1
  unfold yielded
  rw [← slotOf_eq, hs]
  simp only [Option.bind_some]
  rw [← h1]
  by_cases ht : t < a.tmps.size
  · have h2 : a.tmps.getD t undef = a.tmps[t] := by simp [Array.getD, ht]
    rw [h2, Array.getElem?_eq_getElem ht]
    generalize a.tmps[t] = v
    cases v <;> rfl
  · simp [Array.getD, ht, Array.getElem?_eq_none (Nat.le_of_not_lt ht), undef]

theorem isSel_def {o : Oper} (h : isSel o = false) : ∀ c, o.op ≠ .defer c := by
  intro c hc
  simp [isSel, hc] at h
/-- One operation with its guard, whatever comes next. -/
theorem shG_sound {all : Array Oper} {o : Oper} {W : List Nat} {e : Env} {a : Act} {next : Act → World → Prop} {Q : Exit → Act → World → Prop} {K : Value → World → Prop} {w : World}
    (hr : RelW n kp W e a) (hl : allIn kp W (looks all o) = true) (hs : isSel o = false)
    (hn : ∀ v w', K v w' → next (a.put o.dst v) w') (hR : ∀ c w', R (.panicked c) w' → Q (.panic c) a w')
    (h : shG P n R false all o e w K) :
    if Region.wanted o (yielded all a.tmps) then o.wp P a w next Q else next (a.put o.dst undef) w := by
  unfold shG at h
  have hwp : shOp P n R false o e w K → o.wp P a w next Q := fun h => by
    unfold Oper.wp
    rw [eval_all hr hl hs]
    exact upon_of hn hR (op_sound h)
  cases hg : o.guard with
  | none =>
    simp only [hg] at h
    simp only [Region.wanted, hg, if_true]
    exact hwp h
  | some jw =>
    obtain ⟨j, want⟩ := jw
    simp only [hg] at h
    simp only [Region.wanted, hg]
    cases ht : slotOf all j with
    | none =>
      simp only [ht] at h
      have : yielded all a.tmps j = none := by unfold yielded; rw [← slotOf_eq, ht]; rfl
      simp only [this]
      simpa using hn _ _ h
    | some t =>
      simp only [ht] at h
      have hk := allIn_spec hl t (List.mem_append_right _ (by simp [hg, ht]))
      rw [yielded_eq hr ht hk]
      revert h
      generalize rd n e t = v
      intro h
      unfold gd at h
      cases v with
      | bool b =>
        simp only [] at h ⊢
        cases hb : b == want with
        | true =>
          simp only [hb] at h
          have : (some b == some want) = true := by simpa using hb
          simp only [this, if_true]
          exact hwp h
        | false =>
          simp only [hb] at h
          have : (some b == some want) = false := by simpa using hb
          simp only [this]
          simpa using hn _ _ h
      | _ => simpa using hn _ _ h

/-- The same within the fence. -/
theorem shG_soundIn {ro : Option Nat} {m : Nat} {all : Array Oper} {o : Oper} {W : List Nat} {e : Env} {a : Act} {next : Act → World → Prop} {Q : Exit → Act → World → Prop} {K : Value → World → Prop} {w : World}
    (hr : RelW n kp W e a) (hl : allIn kp W (looks all o) = true) (hs : isSel o = false)
    (hn : ∀ v w', K v w' → next (a.put o.dst v) w') (hR : ∀ c w', R (.panicked c) w' → Q (.panic c) a w')
    (h : shG P n R true all o e w K) :
    if Region.wanted o (yielded all a.tmps) then o.wpIn (Fw ro) m P a w next Q else (∀ f, o.about P w a.eval = some f → (Fw ro).fn f) ∧ next (a.put o.dst undef) w := by
  unfold shG at h
  have hwp : shOp P n R true o e w K → o.wpIn (Fw ro) m P a w next Q := fun h => by
    unfold Oper.wpIn
    refine ⟨fun _ _ => trivial, ?_⟩
    rw [Oper.semAt_eq _ _ _ (isSel_def hs), eval_all hr hl hs]
    exact upon_ofIn hn hR (op_sound h)
  cases hg : o.guard with
  | none =>
    simp only [hg] at h
    simp only [Region.wanted, hg, if_true]
    exact hwp h
  | some jw =>
    obtain ⟨j, want⟩ := jw
    simp only [hg] at h
    simp only [Region.wanted, hg]
    cases ht : slotOf all j with
    | none =>
      simp only [ht] at h
      have : yielded all a.tmps j = none := by unfold yielded; rw [← slotOf_eq, ht]; rfl
      simp only [this]
      exact (by simpa using ⟨fun _ _ => trivial, hn _ _ h⟩)
    | some t =>
      simp only [ht] at h
      have hk := allIn_spec hl t (List.mem_append_right _ (by simp [hg, ht]))
      rw [yielded_eq hr ht hk]
      revert h
      generalize rd n e t = v
      intro h
      unfold gd at h
      cases v with
      | bool b =>
        simp only [] at h ⊢
        cases hb : b == want with
        | true =>
          simp only [hb] at h
          have : (some b == some want) = true := by simpa using hb
          simp only [this, if_true]
          exact hwp h
        | false =>
          simp only [hb] at h
          have : (some b == some want) = false := by simpa using hb
          simp only [this]
          exact (by simpa using ⟨fun _ _ => trivial, hn _ _ h⟩)
      | _ => exact (by simpa using ⟨fun _ _ => trivial, hn _ _ h⟩)

theorem noSel_cons {o : Oper} {os : List Oper} (h : noSel (o :: os) = true) : isSel o = false ∧ noSel os = true := by
  simp only [noSel] at h
  cases hs : isSel o with
  | true => simp [hs] at h
  | false => simp only [hs] at h; exact ⟨rfl, h⟩
theorem reads_cons {all : Array Oper} {W : List Nat} {o : Oper} {os : List Oper} (h : readsOk kp all W (o :: os) = true) :
    (allIn kp W (looks all o) = true ∧ dstOk o.dst = true) ∧ readsOk kp all (match o.dst with | some d => d :: W | none => W) os = true := by
  simp only [readsOk] at h
  cases ha : allIn kp W (looks all o) with
  | true =>
    cases hd : dstOk o.dst with
    | true => simp only [ha, hd] at h; exact ⟨⟨rfl, rfl⟩, h⟩
    | false => simp [ha, hd] at h
  | false => simp [ha] at h

theorem put_mkS {e : Env} {d : Option Nat} {v : Value} (h : dstOk d = true) : put e d v mkS = e mkS := by
  cases d with
  | none => rfl
  | some d => exact upd_ne e v (dstOk_ne h)
theorem putk_mkS {e : Env} {d : Option Nat} {v : Value} (h : dstOk d = true) : putk kp e d v mkS = e mkS := by
  cases d with
  | none => rfl
  | some d =>
    simp only [putk]
    cases memN kp d with
    | true => exact upd_ne e v (dstOk_ne h)
    | false => rfl
/-- What stands behind a region: the kept slots. -/
theorem putk_rel {ek e : Env} {d : Option Nat} {v : Value} (h : ∀ t, memN kp t = true → ek t = e t) : ∀ t, memN kp t = true → putk kp ek d v t = put e d v t := by
  intro t ht
  cases d with
  | none => exact h t ht
  | some d =>
    simp only [putk, put]
    by_cases htd : t = d
    · subst htd; simp only [ht, upd_same]
    · cases hd : memN kp d with
      | true => simp only [upd_ne _ _ htd]; exact h t ht
      | false => simp only [upd_ne _ _ htd]; exact h t ht
theorem putk_frame {ek : Env} {o : Oper} {os : List Oper} {v : Value} {t : Nat} (h : memN (modsOps kp (o :: os)) t = false) : putk kp ek o.dst v t = ek t ∧ memN (modsOps kp os) t = false := by
  have hins : ∀ x l, memN (insN x l) t = false → x ≠ t ∧ memN l t = false := by
    intro x l hx
    unfold insN at hx
    cases hm : memN l x with
    | true =>
      simp only [hm] at hx
      refine ⟨fun e => ?_, hx⟩
      subst e; rw [hm] at hx; cases hx
    | false =>
      simp only [hm] at hx
      simp only [memN] at hx
      cases hb : Nat.beq x t with
      | true => simp [hb] at hx
      | false => simp only [hb] at hx; exact ⟨(fun e => by rw [(beq_iff x t).2 e] at hb; cases hb), hx⟩
  simp only [modsOps] at h
  cases hd : o.dst with
  | none => simp only [hd] at h; exact ⟨rfl, h⟩
  | some d =>
    simp only [hd] at h
    simp only [putk]
    cases hk : memN kp d with
    | true =>
      simp only [hk] at h
      obtain ⟨h1, h2⟩ := hins _ _ h
      exact ⟨upd_ne _ _ (fun e => h1 e.symm), h2⟩
    | false => simp only [hk] at h; exact ⟨rfl, h⟩

theorem ops_sound {ro : Option Nat} {m : Nat} {all : Array Oper} {K : Env → World → Prop} {Q : Exit → Act → World → Prop} {e0 : Env} :
    ∀ (l : List Oper) (W : List Nat) (e ek : Env) (a : Act) (w : World), readsOk kp all W l = true → noSel l = true → RelW n kp W e a → (∀ t, memN kp t = true → ek t = e t) → e mkS = e0 mkS → ek mkS = e0 mkS →
    (hQ : ∀ e' a' w', Rel n kp e' a' → (∀ t, memN (modsOps kp l) t = false → e' t = ek t) → K e' w' → Q .normal a' w') → (hP : ∀ c a' w', a'.defers = mkDf (e0 mkS) → R (.panicked c) w' → Q (.panic c) a' w') →
    shOps P n kp R all K l e ek w → wpListIn (Fw ro) m P all Q l a w
  | [], W, e, ek, a, w, _, _, hr, hk, h0, h0k, hQ, _, h =>
    wpListIn_nil (hQ ek a w ⟨by rw [hr.1, h0, h0k], hr.2.1, fun t ht hm => by
      rcases hm with hm | hm
      · rw [hr.2.2 t ht (.inl hm), hk t hm]
      · simp [memN] at hm⟩ (fun _ _ => rfl) h)
  | o :: os, W, e, ek, a, w, hrd, hns, hr, hk, h0, h0k, hQ, hP, h => by
    obtain ⟨⟨h1, hd⟩, h2⟩ := reads_cons hrd
    obtain ⟨h3, h4⟩ := noSel_cons hns
    refine wpListIn_step fun K' hK' => ?_
    refine shG_soundIn (K := fun v w' => shOps P n kp R all K os (put e o.dst v) (putk kp ek o.dst v) w') hr h1 h3 (fun v w' hv => hK' _ _ ?_) (fun c w' hc => hP c a w' (by rw [hr.1, h0]) hc) h
    exact ops_sound os _ _ _ _ _ h2 h4 (put_rel hr o.dst v hd) (putk_rel hk) (by rw [put_mkS hd, h0]) (by rw [putk_mkS hd, h0k])
      (fun e' a' w' hr' hf hk' => hQ e' a' w' hr' (fun t ht => by obtain ⟨h5, h6⟩ := putk_frame (v := v) (ek := ek) ht; rw [hf t h6, h5]) hk') hP hv

/-! ### A region that draws its order -/
section drawn
variable {ro : Option Nat} {m : Nat} {ops : Array Oper} {T : World → World → Prop} {Q : Exit → Act → World → Prop}

/-- Whatever order is picked; each operation moves the world by T, but where nothing else may come up beside it. -/
def wA (ro : Option Nat) (m : Nat) (P : Program) (ops : Array Oper) (T : World → World → Prop) (Q : Exit → Act → World → Prop) : Nat → Array Bool → Act → World → Prop
  | 0, listed, a, w => Region.ready .any ops listed = [] ∧ Q .normal a w
  | f + 1, listed, a, w => Region.ready .any ops listed ≠ [] ∧ ∀ i ∈ Region.ready .any ops listed,
      wpOpIn (Fw ro) m P ops Q i (fun a' w' => (cmpB ops i = true ∨ T w w') ∧ ∀ w'', Ext w' w'' → wA ro m P ops T Q f (listed.setIfInBounds i true) a' w'') a w
theorem Ext.refl (w : World) : Ext w w := RowKit.Below.refl _ _
theorem Ext.trans {a b c : World} (h : Ext a b) (k : Ext b c) : Ext a c := RowKit.Below.trans h (k.mono h.size)
theorem wpAny_of_wA : ∀ (f : Nat) (listed : Array Bool) (a : Act) (w : World), wA ro m P ops T Q f listed a w → wpAnyIn (Fw ro) m P .any ops Q f listed a w
  | 0, _, _, _, h => h
  | f + 1, _, _, _, h => ⟨fun h0 => absurd h0 h.1, fun i hi => wpOpIn_mono (fun a' w' hk => wpAny_of_wA f _ a' w' (hk.2 w' (Ext.refl _))) (h.2 i hi)⟩

/-- What an operation yields, wherever it comes up from here on. -/
def Yt (P : Program) (ops : Array Oper) (T : World → World → Prop) (o : Oper) (v : Value) (a : Act) (w : World) : Prop :=
  ∀ w', T w w' → if Region.wanted o (yielded ops a.tmps) then uponK P false (fun u w'' => u = v ∧ Ext w' w'') noR ((execOp a.eval o).run P w') else v = undef
theorem Yt.later {o : Oper} {v : Value} {a : Act} {w w1 : World} (hT : Moves T) (h : Yt P ops T o v a w) (h1 : T w w1) : Yt P ops T o v a w1 := fun w' hw' => h w' (hT.trans h1 hw')
theorem Yt.of_same {o : Oper} {v : Value} {a a' : Act} {w : World} (h : Yt P ops T o v a w) (he : execOp a'.eval o = execOp a.eval o)
    (hw : Region.wanted o (yielded ops a'.tmps) = Region.wanted o (yielded ops a.tmps)) : Yt P ops T o v a' w := by
  intro w' hw'
  have := h w' hw'
  rw [he, hw]
  exact this
theorem Yt.wpOp {i : Nat} {o : Oper} {v : Value} {a : Act} {w : World} {K : Act → World → Prop} (hT : Moves T) (hi : ops[i]? = some o) (hdf : ∀ c, o.op ≠ .defer c) (h : Yt P ops T o v a w)
    (hK : ∀ w', Ext w w' → K (a.put o.dst v) w') : wpOpIn (Fw ro) m P ops Q i K a w := by
  unfold Go.wpOpIn
  simp only [hi]
  have h0 := h w (hT.refl w)
  split
  · rename_i hw
    rw [if_pos hw] at h0
    unfold Oper.wpIn
    refine ⟨fun _ _ => trivial, ?_⟩
    rw [Oper.semAt_eq _ _ _ hdf]
    refine upon_ofIn (K := fun u w'' => u = v ∧ Ext w w'') (R := noR) (fun u w' hu => ?_) (fun _ _ hc => hc.elim) h0
    rw [hu.1]
    exact hK _ hu.2
  · rename_i hw
    rw [if_neg hw] at h0
    rw [← h0]
    exact ⟨fun _ _ => trivial, hK w (Ext.refl _)⟩

/-- One operation, apart from another: whether the other's value already lies there makes no difference to it. -/
theorem wpOp_apart {j : Nat} {oi oj : Oper} {v : Value} (hj : ops[j]? = some oj) (hap : oi.apart ops oj = true) (hsj : ∀ cs b, oj.op ≠ .select cs b) (hdf : ∀ c, oj.op ≠ .defer c)
    (hQ : ∀ c a w, Q (.panic c) (a.put oi.dst v) w → Q (.panic c) a w) {K : Act → World → Prop} {a : Act} {w : World} (hlo : ¬ LetsOut Q)
    (h : wpOpIn (Fw ro) m P ops Q j K (a.put oi.dst v) w) :
    wpOpIn (Fw ro) m P ops Q j (fun a' w' => K (a'.put oi.dst v) w' ∧ ∃ ds u, a' = ({ a with defers := ds } : Act).put oj.dst u) a w := by
  obtain ⟨h1, h2, h3⟩ := Oper.apart_spec hap
  have hcomm : ∀ (b : Act) u, (b.put oi.dst v).put oj.dst u = (b.put oj.dst u).put oi.dst v := fun b u => Act.put_comm b v u h2
  unfold wpOpIn at *
  simp only [hj] at *
  rw [wanted_put oj a oi.dst v h1] at h
  split
  · rename_i hw
    simp only [hw, if_true] at h
    unfold Oper.wpIn at *
    refine ⟨fun _ _ => trivial, ?_⟩
    replace h := h.2
    rw [Oper.semAt_eq _ _ _ hdf] at h ⊢
    rw [execOp_put oj hsj a oi.dst v h1] at h
    generalize (execOp a.eval oj).run P w = r at *
    cases r with
    | ok x w' =>
      cases x <;> simp only [Oper.uponIn] at h ⊢
      case value u => rw [hcomm] at h; exact ⟨h, a.defers, u, rfl⟩
      case skip => rw [hcomm] at h; exact ⟨h, a.defers, _, rfl⟩
      case defer d =>
        rw [Act.put_defers, hcomm] at h
        exact ⟨h, _, _, rfl⟩
      case enter f args =>
        refine ⟨h.1, CallsIn.mono h.2 fun e w'' he => ?_⟩
        cases e with
        | returned u =>
          have he' : K ((a.put oi.dst v).put oj.dst u) w'' := he
          rw [hcomm] at he'; exact ⟨he', a.defers, u, rfl⟩
        | panicked c => exact hQ _ _ _ he
        | outgrown => exact he
      case row row args => exact ⟨h.1, RowsIn.mono h.2 fun u w'' he => ⟨by rw [hcomm] at he; exact he, a.defers, u, rfl⟩⟩
      case round l f tmps asn body =>
        refine ⟨h.1, RoundIn.mono h.2 fun e w'' he => ?_⟩
        cases e with
        | returned u =>
          have he' : K ((a.put oi.dst v).put oj.dst u) w'' := he
          rw [hcomm] at he'; exact ⟨he', a.defers, u, rfl⟩
        | panicked c => exact hQ _ _ _ he
        | outgrown => exact he
    | halt x w' =>
      cases x <;> simp only [Oper.uponIn] at h ⊢
      exact hQ _ _ _ h
  · rename_i hw
    simp only [hw] at h
    rw [hcomm] at h
    exact ⟨fun _ _ => trivial, h.2, a.defers, _, rfl⟩

theorem waits_listed {i j : Nat} {listed : Array Bool} (hi : i ∈ Region.ready .any ops listed) (hj : j ∈ Region.ready .any ops listed) : Region.waitsFor .any ops j i = false := by
  cases hw : Region.waitsFor .any ops j i with
  | false => rfl
  | true =>
    obtain ⟨oj, hoj, e, he, hb, hon⟩ := Region.waitsFor_spec hw
    obtain ⟨_, oj', hoj', hall⟩ := mem_ready.1 hj
    have : oj' = oj := Option.some.inj (hoj'.symm.trans hoj)
    subst this
    have h1 := hall e he hb
    have h0 := (mem_ready.1 hi).1
    rw [hon] at h1
    rcases Nat.lt_or_ge i listed.size with h' | h'
    · simp [h'] at h0 h1; rw [h0] at h1; cases h1
    · simp [Array.getElem?_eq_none h'] at h1
theorem cmp_alone {i j : Nat} {listed : Array Bool} (hi : i ∈ Region.ready .any ops listed) (hj : j ∈ Region.ready .any ops listed) (hc : cmpB ops j = true) : i = j := by
  have hlt : i < ops.size := by
    obtain ⟨_, oi, hoi, _⟩ := mem_ready.1 hi
    exact (Array.getElem?_eq_some_iff.1 hoi).1
  have h1 := List.all_eq_true.1 hc i (List.mem_range.2 hlt)
  simp only [Bool.or_eq_true] at h1
  rcases h1 with h1 | h1 | h1
  · exact (beq_iff _ _).1 h1
  · rw [waits_listed hi hj] at h1; cases h1
  · rw [waits_listed hj hi] at h1; cases h1

/-- What is quiet may be taken first. -/
theorem wA_first {i : Nat} {oi : Oper} {v : Value} (hT : Moves T) (hi : ops[i]? = some oi) (hsel : ∀ (j : Nat) (o : Oper) cs b, ops[j]? = some o → o.op ≠ .select cs b) (hdf : ∀ (j : Nat) (o : Oper), ops[j]? = some o → ∀ c, o.op ≠ .defer c) (hlo : ¬ LetsOut Q)
    (hQ : ∀ c a d w, Q (.panic c) (a.put d v) w → Q (.panic c) a w) :
    ∀ (f : Nat) (listed : Array Bool) (a : Act) (w : World),
      (∀ j oj, ops[j]? = some oj → j ≠ i → listed.getD j true = false → (∀ e ∈ oj.after, Region.binds .any e = true → e.on ≠ i) → oi.apart ops oj = true) →
      i ∈ Region.ready .any ops listed → Yt P ops T oi v a w →
      (∀ w', Ext w w' → wA ro m P ops T Q f (listed.setIfInBounds i true) (a.put oi.dst v) w') → wA ro m P ops T Q (f + 1) listed a w := by
  intro f
  induction f with
  | zero =>
    intro listed a w _ hr hy H
    refine ⟨fun h => (by rw [h] at hr; cases hr), fun j hj => ?_⟩
    by_cases hji : j = i
    · subst hji
      exact hy.wpOp hT hi (hdf _ _ hi) fun w' hw' => ⟨.inr (hT.ext hw'), fun w'' hw'' => H w'' (Ext.trans hw' hw'')⟩
    · have := ready_mono hj hji
      rw [(H w (Ext.refl _)).1] at this
      cases this
  | succ f ih =>
    intro listed a w hfree hr hy H
    refine ⟨fun h => (by rw [h] at hr; cases hr), fun j hj => ?_⟩
    by_cases hji : j = i
    · subst hji
      exact hy.wpOp hT hi (hdf _ _ hi) fun w' hw' => ⟨.inr (hT.ext hw'), fun w'' hw'' => H w'' (Ext.trans hw' hw'')⟩
    · have h1 := (H w (Ext.refl _)).2 j (ready_mono hj hji)
      obtain ⟨hjun, oj, hoj, hall⟩ := mem_ready.1 hj
      have hnw := waits_listed hr hj
      have hnot : ∀ e ∈ oj.after, Region.binds .any e = true → e.on ≠ i := fun e he hb heq => by
        unfold Region.waitsFor at hnw
        simp only [hoj] at hnw
        have : (oj.after.any fun e => Region.binds .any e && e.on == i) = true := Array.any_eq_true'.2 ⟨e, he, by simp [hb, heq]⟩
        rw [this] at hnw; cases hnw
      have hap := hfree j oj hoj hji hjun hnot
      have h2 := wpOp_apart hoj hap (fun cs b => hsel j oj cs b hoj) (hdf _ _ hoj) (fun c a w => hQ c a _ w) hlo h1
      have hTj : cmpB ops j = true → False := fun hc => hji (cmp_alone hr hj hc).symm
      have hfree' : ∀ k ok, ops[k]? = some ok → k ≠ i → (listed.setIfInBounds j true).getD k true = false →
          (∀ e ∈ ok.after, Region.binds .any e = true → e.on ≠ i) → oi.apart ops ok = true := fun k ok hk hki hun hno => by
        refine hfree k ok hk hki ?_ hno
        by_cases hjk : j = k
        · subst hjk; exact hjun
        · rw [getD_set_ne true hjk] at hun; exact hun
      obtain ⟨_, _, h3⟩ := Oper.apart_spec hap
      refine wpOpIn_mono (fun a' w' hk => ?_) h2
      obtain ⟨⟨hc, hk⟩, ds, u, rfl⟩ := hk
      have hTw : T w w' := hc.resolve_left fun h => hTj h
      refine ⟨.inr hTw, fun w'' hw'' => ?_⟩
      refine ih (listed.setIfInBounds j true) _ w'' hfree' (ready_mono hr (Ne.symm hji)) ?_ fun w3 hw3 => ?_
      · refine Yt.later hT (Yt.of_same (a := a) hy ?_ ?_) (hT.trans hTw (hT.ext hw''))
        · rw [execOp_put oi (fun cs b => hsel i oi cs b hi) _ oj.dst u h3]
          rfl
        · rw [wanted_put oi _ oj.dst u h3]
      · rw [Array.setIfInBounds_comm _ _ hji]
        exact hk w3 (Ext.trans hw'' hw3)
end drawn

theorem isSel_of {l : List Oper} (h : noSel l = true) : ∀ o ∈ l, isSel o = false := by
  induction l with
  | nil => intro o ho; cases ho
  | cons x xs ih =>
    intro o ho
    obtain ⟨h1, h2⟩ := noSel_cons h
    rcases List.mem_cons.1 ho with rfl | ho
    · exact h1
    · exact ih h2 o ho
theorem noSel_spec {l : List Oper} (h : noSel l = true) : ∀ o ∈ l, ∀ cs b, o.op ≠ .select cs b := by
  induction l with
  | nil => intro o ho; cases ho
  | cons x xs ih =>
    obtain ⟨h1, h2⟩ := noSel_cons h
    intro o ho cs b hb
    rcases List.mem_cons.1 ho with rfl | ho
    · simp [isSel, hb] at h1
    · exact ih h2 o ho cs b hb
theorem firstQ_spec {ops : Array Oper} : ∀ {l : List Nat} {i : Nat}, firstQ P ops l = some i → i ∈ l ∧ ∃ o, ops[i]? = some o ∧ loud P o = false
  | [], i, h => by simp [firstQ] at h
  | j :: js, i, h => by
    simp only [firstQ] at h
    split at h
    · rename_i o ho
      split at h
      · rename_i hl
        cases h
        exact ⟨List.mem_cons_self .., o, ho, hl⟩
      · obtain ⟨h1, h2⟩ := firstQ_spec h
        exact ⟨List.mem_cons_of_mem _ h1, h2⟩
    · cases h

theorem shG_quiet {all : Array Oper} {o : Oper} {W : List Nat} {e : Env} {a : Act} {T : World → World → Prop} {v : Value} {w : World}
    (hr : RelW n kp W e a) (hl : allIn kp W (looks all o) = true) (hs : isSel o = false)
    (h : ∀ w', T w w' → shG P n noR false all o e w' fun u w'' => u = v ∧ Ext w' w'') : Yt P all T o v a w := by
  intro w' hw'
  have h := h w' hw'
  unfold shG at h
  have hwp : shOp P n noR false o e w' (fun u w'' => u = v ∧ Ext w' w'') → uponK P false (fun u w'' => u = v ∧ Ext w' w'') noR ((execOp a.eval o).run P w') := fun h => by
    rw [eval_all hr hl hs]; exact op_sound h
  cases hg : o.guard with
  | none =>
    simp only [hg] at h
    simp only [Region.wanted, hg, if_true]
    exact hwp h
  | some jw =>
    obtain ⟨j, want⟩ := jw
    simp only [hg] at h
    simp only [Region.wanted, hg]
    cases ht : slotOf all j with
    | none =>
      simp only [ht] at h
      have : yielded all a.tmps j = none := by unfold yielded; rw [← slotOf_eq, ht]; rfl
      simp only [this]
      simpa using h.1.symm
    | some t =>
      simp only [ht] at h
      have hk := allIn_spec hl t (List.mem_append_right _ (by simp [hg, ht]))
      rw [yielded_eq hr ht hk]
      revert h
      generalize rd n e t = x
      intro h
      unfold gd at h
      cases x with
      | bool b =>
        simp only [] at h ⊢
        cases hb : b == want with
        | true =>
          simp only [hb] at h
          have : (some b == some want) = true := by simpa using hb
          simp only [this, if_true]
          exact hwp h
        | false =>
          simp only [hb] at h
          have : (some b == some want) = false := by simpa using hb
          simp only [this]
          simpa using h.1.symm
      | _ => simpa using h.1.symm

theorem modsOps_mem {ops : List Oper} {o : Oper} (ho : o ∈ ops) {ek : Env} {v : Value} {t : Nat} (h : memN (modsOps kp ops) t = false) : putk kp ek o.dst v t = ek t := by
  induction ops with
  | nil => cases ho
  | cons x xs ih =>
    rcases List.mem_cons.1 ho with rfl | ho
    · exact (putk_frame (v := v) (ek := ek) h).1
    · exact ih ho (putk_frame (v := v) (ek := ek) (o := x) h).2

theorem opsAt_cons {ops : Array Oper} {i : Nat} {is : List Nat} {l : List Oper} (h : opsAt ops (i :: is) = some l) : ∃ o l', ops[i]? = some o ∧ opsAt ops is = some l' ∧ l = o :: l' := by
  simp only [opsAt] at h
  split at h
  · rename_i o l' h1 h2
    cases h
    exact ⟨o, l', h1, h2, rfl⟩
  · cases h
theorem lex_sound {ro : Option Nat} {m : Nat} {ops : Array Oper} {T : World → World → Prop} {K : Env → World → Prop} {Q : Exit → Act → World → Prop} (hT : Moves T) (hns : noSel ops.toList = true) (hdf : ∀ (i : Nat) (o : Oper), ops[i]? = some o → ∀ c, o.op ≠ .defer c) (hlo : ¬ LetsOut Q)
    (hQp : ∀ c a d (v : Value) w, Q (.panic c) (a.put d v) w → Q (.panic c) a w) (e0 : Env) (hP : ∀ c a' w', a'.defers = mkDf (e0 mkS) → R (.panicked c) w' → Q (.panic c) a' w')
    (hQ : ∀ e' a' w', Rel n kp e' a' → (∀ t, memN (modsOps kp ops.toList) t = false → e' t = e0 t) → K e' w' → Q .normal a' w') :
    ∀ (f : Nat) (listed : Array Bool) (is : List Nat) (l : List Oper) (W : List Nat) (e ek : Env) (a : Act) (w : World),
      canon P ops f listed = some is → opsAt ops is = some l → readsOk kp ops W l = true → RelW n kp W e a → (∀ t, memN kp t = true → ek t = e t) →
      (∀ t, memN (modsOps kp ops.toList) t = false → ek t = e0 t) → e mkS = e0 mkS → ek mkS = e0 mkS →
      shD P n kp R ops T K is l e ek w → ∀ w', Ext w w' → wA ro m P ops T Q f listed a w' := by
  have hsel : ∀ (j : Nat) (o : Oper) cs b, ops[j]? = some o → o.op ≠ .select cs b := fun j o cs b hj =>
    noSel_spec hns o (by simpa using Array.mem_of_getElem? hj) cs b
  have hisSel : ∀ (j : Nat) (o : Oper), ops[j]? = some o → isSel o = false := fun j o hj => isSel_of hns o (by simpa using Array.mem_of_getElem? hj)
  have hend : ∀ (W : List Nat) (e ek : Env) (a : Act) (w' : World), RelW n kp W e a → (∀ t, memN kp t = true → ek t = e t) → (∀ t, memN (modsOps kp ops.toList) t = false → ek t = e0 t) → e mkS = e0 mkS → ek mkS = e0 mkS → K ek w' → Q .normal a w' :=
    fun W e ek a w' hr hk hf hm0 hmk h => hQ ek a w' ⟨by rw [hr.1, hm0, hmk], hr.2.1, fun t ht hm => by
      rcases hm with hm | hm
      · rw [hr.2.2 t ht (.inl hm), hk t hm]
      · simp [memN] at hm⟩ hf h
  intro f
  induction f with
  | zero =>
    intro listed is l W e ek a w hc ho hrd hr hk hf hm0 hmk h w' hw'
    simp only [canon] at hc
    split at hc
    · rename_i hre
      cases hc
      simp only [opsAt, Option.some.injEq] at ho
      subst ho
      exact ⟨hre, hend W e ek a w' hr hk hf hm0 hmk (h w' hw')⟩
    · cases hc
  | succ f ih =>
    intro listed is l W e ek a w hc ho hrd hr hk hf hm0 hmk h
    simp only [canon] at hc
    split at hc
    · -- quiet
      rename_i i hq
      obtain ⟨hmem, o', hoi, hl⟩ := firstQ_spec hq
      split at hc
      · rename_i hfree
        split at hc
        · rename_i is' hc'
          cases hc
          obtain ⟨o2, l', ho1, ho2, rfl⟩ := opsAt_cons ho
          have hoo : o' = o2 := Option.some.inj (hoi.symm.trans ho1)
          subst hoo
          · obtain ⟨⟨h1, hdk⟩, h2⟩ := reads_cons hrd
            have hos : isSel o' = false := hisSel i o' hoi
            have hdst : ∀ v t, memN (modsOps kp ops.toList) t = false → putk kp ek o'.dst v t = e0 t := fun v t ht => by
              rw [modsOps_mem (by simpa using Array.mem_of_getElem? hoi) ht]; exact hf t ht
            have go : ∀ v, Yt P ops T o' v a w → shD P n kp R ops T K is' l' (put e o'.dst v) (putk kp ek o'.dst v) w → ∀ w', Ext w w' → wA ro m P ops T Q (f + 1) listed a w' := by
              intro v hy hd w' hw'
              refine wA_first hT hoi hsel hdf hlo (fun c a d w => hQp c a d v w) f listed a w' (Region.free_spec hoi hfree) hmem (Yt.later hT hy (hT.ext hw')) fun w3 hw3 => ?_
              exact ih _ is' l' _ _ _ _ w hc' ho2 h2 (put_rel hr o'.dst v hdk) (putk_rel hk) (hdst v) (by rw [put_mkS hdk, hm0]) (by rw [putk_mkS hdk, hmk]) hd w3 (Ext.trans hw' hw3)
            simp only [shD, hl] at h
            have gmove : ∀ x, o'.guard = none → (o'.op = .move x ∨ o'.op = .assign x) → Yt P ops T o' (ev n e x) a w := fun x hg hop => by
              refine shG_quiet hr h1 hos fun w' _ => ?_
              unfold shG
              simp only [hg]
              unfold shOp
              rcases hop with hop | hop <;> (rw [hop]; exact ⟨rfl, Ext.refl _⟩)
            split at h
            · rename_i x hg hop; exact go _ (gmove x hg (.inl hop)) h
            · rename_i x hg hop; exact go _ (gmove x hg (.inr hop)) h
            · obtain ⟨v, hv, hd⟩ := h
              exact go v (shG_quiet hr h1 hos hv) hd
        · cases hc
      · cases hc
    · -- loud
      rename_i hq
      split at hc
      · rename_i k hre
        split at hc
        · rename_i is' hc'
          cases hc
          obtain ⟨o', l', hoi, ho2, rfl⟩ := opsAt_cons ho
          · obtain ⟨⟨h1, hdk⟩, h2⟩ := reads_cons hrd
            have hos : isSel o' = false := hisSel k o' hoi
            have hl : loud P o' = true := by
              rw [hre] at hq
              simp only [firstQ, hoi] at hq
              cases hl : loud P o' with
              | true => rfl
              | false => simp [hl] at hq
            have hdst : ∀ v t, memN (modsOps kp ops.toList) t = false → putk kp ek o'.dst v t = e0 t := fun v t ht => by
              rw [modsOps_mem (by simpa using Array.mem_of_getElem? hoi) ht]; exact hf t ht
            intro w' hw'
            refine ⟨by rw [hre]; simp, fun j hj => ?_⟩
            rw [hre] at hj
            have hjk : j = k := by simpa using hj
            subst hjk
            simp only [shD, hl] at h
            unfold wpOpIn
            simp only [hoi]
            have fin : ∀ D : Value → World → Prop, (∀ v w'', D v w'' → (cmpB ops j = true ∨ T w' w'') ∧ shD P n kp R ops T K is' l' (put e o'.dst v) (putk kp ek o'.dst v) w'') → shG P n R true ops o' e w' D →
                if Region.wanted o' (yielded ops a.tmps) then o'.wpIn (Fw ro) m P a w' (fun a' w'' => (cmpB ops j = true ∨ T w' w'') ∧ ∀ w3, Ext w'' w3 → wA ro m P ops T Q f (listed.setIfInBounds j true) a' w3) Q
                else (∀ f, o'.about P w' a.eval = some f → (Fw ro).fn f) ∧ (cmpB ops j = true ∨ T w' w') ∧ ∀ w3, Ext w' w3 → wA ro m P ops T Q f (listed.setIfInBounds j true) (a.put o'.dst undef) w3 := fun D hD hg => by
              have := shG_soundIn (ro := ro) (m := m) (next := fun a' w'' => (cmpB ops j = true ∨ T w' w'') ∧ ∀ w3, Ext w'' w3 → wA ro m P ops T Q f (listed.setIfInBounds j true) a' w3) (Q := Q) hr h1 hos
                (fun v w'' hv => ⟨(hD v w'' hv).1, ih _ is' l' _ _ _ _ w'' hc' ho2 h2 (put_rel hr o'.dst v hdk) (putk_rel hk) (hdst v) (by rw [put_mkS hdk, hm0]) (by rw [putk_mkS hdk, hmk]) (hD v w'' hv).2⟩) (fun c w'' hc => hP c a w'' (by rw [hr.1, hm0]) hc) hg
              split
              · rename_i hw; rw [if_pos hw] at this; exact this
              · rename_i hw; rw [if_neg hw] at this; exact this
            split at h
            · rename_i hcm
              exact fin _ (fun v w'' hv => ⟨.inl hcm, hv⟩) (h w' hw')
            · exact fin _ (fun v w'' hv => ⟨.inr hv.1, hv.2⟩) (h w' hw')
        · cases hc
      · cases hc

/-! ### A body -/
/-- What a body comes to: the frame as the values by slots say, and nothing turned but what the body may turn. -/
def Qs (n : Nat) (kp ms : List Nat) (R : Ending → World → Prop) (e : Env) (k : Exit → Env → World → Prop) : Exit → Act → World → Prop
  | .panic c, a, w => (∃ v, a.defers = mkDf v ∧ (memN ms mkS = false → v = e mkS)) ∧ R (.panicked c) w
  | .outgrown, _, _ => False
  | x, a, w => ∃ e', Rel n kp e' a ∧ (∀ t, memN ms t = false → e' t = e t) ∧ k x e' w
theorem Qs_panic {ms : List Nat} {e : Env} {k : Exit → Env → World → Prop} (c : List PanicEntry) (a : Act) (d : Option Nat) (v : Value) (w : World) (h : Qs n kp ms R e k (.panic c) (a.put d v) w) : Qs n kp ms R e k (.panic c) a w := by
  obtain ⟨⟨v', h1, h2⟩, h3⟩ := h
  refine ⟨⟨v', ?_, h2⟩, h3⟩
  cases d <;> simpa [Act.put] using h1
theorem Qs_out {ms : List Nat} {e : Env} {k : Exit → Env → World → Prop} : ¬ LetsOut (Qs n kp ms R e k) := by
  rintro ⟨a, w, h⟩
  exact h
theorem noDef_spec {ops : Array Oper} (h : noSel ops.toList = true) : ∀ (i : Nat) (o : Oper), ops[i]? = some o → ∀ c, o.op ≠ .defer c := by
  have : ∀ l : List Oper, noSel l = true → ∀ o ∈ l, ∀ c, o.op ≠ .defer c := by
    intro l
    induction l with
    | nil => intro _ o ho; cases ho
    | cons x xs ih =>
      intro h o ho
      obtain ⟨h1, h2⟩ := noSel_cons h
      rcases List.mem_cons.1 ho with rfl | ho
      · exact isSel_def h1
      · exact ih h2 o ho
  intro i o hi
  exact this _ h o (by simpa using Array.mem_of_getElem? hi)
theorem region_sound {ro : Option Nat} {m : Nat} {id : Nat} {ops : Array Oper} {draw : Bool} {k : Exit → Env → World → Prop} {e : Env} {a : Act} {w : World} (hr : Rel n kp e a)
    (h : shRegion P n kp R ops draw (k .normal) e w) : (Code.region id ops draw).wpIn (Fw ro) m P (Qs n kp (modsOps kp ops.toList) R e k) a w := by
  unfold shRegion at h
  cases draw with
  | false =>
    simp only [] at h
    split at h
    · rename_i h1 h2
      exact wpIn_region_list (ops_sound (e0 := e) ops.toList [] e e a w h1 h2 hr (fun _ _ => rfl) rfl rfl (fun e' a' w' hr' hf hk => ⟨e', hr', hf, hk⟩) (fun c a' w' hd hR => ⟨⟨_, hd, fun _ => rfl⟩, hR⟩) h)
    · exact h.elim
  | true =>
    simp only [] at h
    split at h
    · rename_i is hm hc
      split at h
      · rename_i l hl
        split at h
        · rename_i h1 h2
          obtain ⟨T, hT, h⟩ := h
          refine wpIn_region_draw fun t => ?_
          simp only [Region.schedule, hm, Bool.true_or, if_true]
          refine wpAnyIn_sound ops.size t _ a _ (wpAny_of_wA (T := T) _ _ _ _ ?_)
          exact lex_sound hT h2 (noDef_spec h2) Qs_out (fun c a d v w => Qs_panic c a d v w) e (fun c a' w' hd hR => ⟨⟨_, hd, fun _ => rfl⟩, hR⟩)
            (fun e' a' w' hr' hf hk => ⟨e', hr', hf, hk⟩) _ _ _ _ _ _ _ _ _ hc hl h1 hr (fun _ _ => rfl) (fun _ _ => rfl) rfl rfl h _ (Ext.refl _)
        · exact h.elim
      · exact h.elim
    · exact h.elim

theorem memN_insN (x : Nat) (l : List Nat) (t : Nat) : memN (insN x l) t = true ↔ x = t ∨ memN l t = true := by
  unfold insN
  cases hm : memN l x with
  | true => exact ⟨.inr, fun h => h.elim (fun e => e ▸ hm) id⟩
  | false =>
    simp only [memN]
    cases hb : Nat.beq x t with
    | true => exact ⟨fun _ => .inl ((beq_iff _ _).1 hb), fun _ => rfl⟩
    | false => exact ⟨.inr, fun h => h.resolve_left (fun e => by rw [(beq_iff x t).2 e] at hb; cases hb)⟩
theorem memN_union (a b : List Nat) (t : Nat) : memN (union a b) t = true ↔ memN a t = true ∨ memN b t = true := by
  induction a with
  | nil => simp [union, memN]
  | cons x xs ih =>
    simp only [union, memN_insN, ih]
    by_cases h : x = t
    · subst h; simp [memN, (beq_iff x x).2 rfl]
    · simp [memN, beq_ff h, h]
theorem union_ff {a b : List Nat} {t : Nat} (h : memN (union a b) t = false) : memN a t = false ∧ memN b t = false := by
  constructor
  · cases ha : memN a t with
    | false => rfl
    | true => rw [(memN_union a b t).2 (.inl ha)] at h; cases h
  · cases hb : memN b t with
    | false => rfl
    | true => rw [(memN_union a b t).2 (.inr hb)] at h; cases h
theorem mix_self {ms : List Nat} {g e : Env} (h : ∀ t, memN ms t = false → g t = e t) : mix ms g e = g := by
  funext t
  unfold mix
  cases hm : memN ms t with
  | true => rfl
  | false => exact (h t hm).symm

theorem Qs_pan {ms ms' : List Nat} {e : Env} {k k' : Exit → Env → World → Prop} {c : List PanicEntry} {a : Act} {w : World} (h : Qs n kp ms R e k (.panic c) a w) (hm : memN ms' mkS = false → memN ms mkS = false) (_ : e = e) :
    Qs n kp ms' R e k' (.panic c) a w := by
  obtain ⟨⟨v, h1, h2⟩, h3⟩ := h
  exact ⟨⟨v, h1, fun ht => h2 (hm ht)⟩, h3⟩
theorem Qs_pan2 {ms ms' : List Nat} {e e' : Env} {k k' : Exit → Env → World → Prop} {c : List PanicEntry} {a : Act} {w : World} (h : Qs n kp ms R e' k (.panic c) a w) (hm : memN ms' mkS = false → memN ms mkS = false)
    (he : memN ms' mkS = false → e' mkS = e mkS) : Qs n kp ms' R e k' (.panic c) a w := by
  obtain ⟨⟨v, h1, h2⟩, h3⟩ := h
  exact ⟨⟨v, h1, fun ht => by rw [h2 (hm ht), he ht]⟩, h3⟩
theorem calm2 {a b : Code} {x : Bool} (h : (match calmC a with | true => calmC b | false => false) = true) : calmC a = true ∧ calmC b = true := by
  cases ha : calmC a with
  | true => rw [ha] at h; exact ⟨rfl, h⟩
  | false => rw [ha] at h; cases h
/-! ### A range over a function -/
theorem bindP_mkS : ∀ (ps : List Nat) (i : Nat) (xs : List Value) (e : Env), psOk ps = true → bindP i ps xs e mkS = e mkS
  | [], _, _, _, _ => rfl
  | p :: ps, i, xs, e, h => by
    simp only [psOk] at h
    split at h
    · rename_i hp
      simp only [bindP]
      rw [bindP_mkS ps (i + 1) xs _ h, upd_ne _ _ (dstOk_ne hp)]
    · cases h
theorem bindP_rel : ∀ (ps : List Nat) (i : Nat) (xs : List Value) (e : Env) (tm : Array Value) (ds : List Deferred), psOk ps = true → ps.length + i = xs.length → Rel n kp e { tmps := tm, defers := ds } →
    Rel n kp (bindP i ps xs e) { tmps := (ps.zip (xs.drop i)).foldl (fun t (x : Nat × Value) => t.setIfInBounds x.1 x.2) tm, defers := ds }
  | [], i, xs, e, tm, ds, _, _, h => by simpa [bindP] using h
  | p :: ps, i, xs, e, tm, ds, h, hl, hr => by
    simp only [psOk] at h
    split at h
    · rename_i hp
      simp only [List.length_cons] at hl
      have hi : i < xs.length := by omega
      have hd : xs.drop i = xs[i] :: xs.drop (i + 1) := List.drop_eq_getElem_cons hi
      simp only [bindP, hd, List.zip_cons_cons, List.foldl_cons]
      refine bindP_rel ps (i + 1) xs _ _ ds h (by omega) ?_
      have := put_rel hr (some p) (xs[i]) hp
      have e1 : xs.getD i undef = xs[i] := by simp [List.getD, hi]
      rw [e1]
      refine ⟨this.1, this.2.1, fun t ht hm => this.2.2 t ht (hm.imp_right fun hm => by simp [memN] at hm)⟩
    · cases h
theorem chg_put (w : World) (l : Nat) (o : Obj) : Chg l w (w.putObj l o) := ⟨o, rfl⟩
theorem putG {w : World} {l : Nat} {o o' : Obj} (h : w.heap[l]? = some o) : (w.putObj l o').heap[l]? = some o' := World.putObj_heap_same (Array.getElem?_eq_some_iff.1 h).1
theorem kxs_mem {k : Exit → Env → World → Prop} {e : Env} : ∀ {is : List Nat} {i : Nat} {f : Nat → World → Prop}, (i, f) ∈ kxs k e is → f = fun D w => k (exitOf i) (upd e mkS (mkV D (e mkS))) w
  | [], _, _, h => by simp [kxs] at h
  | j :: js, i, f, h => by
    simp only [kxs, List.mem_cons, Prod.mk.injEq] at h
    rcases h with ⟨rfl, rfl⟩ | h
    · rfl
    · exact kxs_mem h
def codeOf : Nat → Code
  | 0 => .ret
  | i + 1 => .exit i
theorem kxN_mem {k : Exit → Env → World → Prop} {e : Env} : ∀ {is : List Nat} {i : Nat} {f : World → Prop}, (i, f) ∈ kxN k e is → f = fun w => k (exitOf i) e w
  | [], _, _, h => by simp [kxN] at h
  | j :: js, i, f, h => by
    simp only [kxN, List.mem_cons, Prod.mk.injEq] at h
    rcases h with ⟨rfl, rfl⟩ | h
    · rfl
    · exact kxN_mem h
theorem round_ok {l dd : Nat} {fn : FuncId} {tm : Array Value} {ps : Array Tmp} {asn body : Code} {e : Env} {rec : LoopState → Option Code → Loop}
    (hrec : rec = fun st pe => { state := st, pending := pe, fn, tmps := tm, params := ps, assign := asn, body, defers := dd })
    (iha : ∀ (k : Exit → Env → World → Prop) (e : Env) (a : Act) (w : World), Rel n kp e a → sh P n kp (some l) noR asn k e w → asn.wpIn (Fw (some l)) 0 P (Qs n kp (mods kp asn) noR e k) a w)
    (ihb : ∀ (k : Exit → Env → World → Prop) (e : Env) (a : Act) (w : World), Rel n kp e a → sh P n kp (some l) noR body k e w → body.wpIn (Fw (some l)) 0 P (Qs n kp (mods kp body) noR e k) a w)
    (hps : psOk ps.toList = true) (hnm' : n ≤ mkS) (hrs : tm.size = n) (hrt : ∀ t, t < n → memN kp t = true ∨ memN [] t = true → tm.getD t undef = e t) :
    ∀ xs w2 (Q : Bool → World → Prop), xs.length = ps.size → w2.heap[l]? = some (.loop (rec .ready none)) →
          sh P n kp (some l) noR asn (nrm (fun _ _ _ => False) fun e w' => midR l (.loop (rec .ready none)) (.loop (rec .busy none)) (fun w' => sh P n kp (some l) noR body (fun x _ w' => finR l (.loop (rec .ready none)) (.loop (rec .busy none)) (fun i => .loop (rec .done (some (codeOf i)))) Q x w') e w') w') (bindP 0 ps.toList xs (upd e mkS undef)) w2 →
          CallsV P (.func (.yield l) #[] #[]) xs.toArray w2 fun e w' => match e with | .returned (.bool b) => Q b w' | _ => False := by
  intro xs w2 Q hxs hl hs
  have hy := run_yield (P := P) (args := xs.toArray) hl (by rw [hrec]; simpa using hxs)
  rw [hrec] at hy
  refine ⟨rfl, rfl, fn, _, asn, body, hy, ?_⟩
  have hre : Rel n kp (bindP 0 ps.toList xs (upd e mkS undef)) { tmps := (ps.zip xs.toArray).foldl (fun tmps (x : Nat × Value) => tmps.setIfInBounds x.1 x.2) tm, defers := [] } := by
    have := bindP_rel ps.toList 0 xs (upd e mkS undef) tm [] hps (by simpa using hxs.symm) ⟨by rw [upd_same]; rfl, hrs, fun t ht hm => by
      by_cases htm : t = mkS
      · omega
      · rw [upd_ne _ _ htm]; exact hrt t ht hm⟩
    rw [List.drop_zero] at this
    rw [← Array.foldl_toList, Array.toList_zip]
    exact this
  have hin : RoundIn (Fw none) 0 P l fn ((ps.zip xs.toArray).foldl (fun tmps (x : Nat × Value) => tmps.setIfInBounds x.1 x.2) tm) asn body w2 (fun e w' => match e with | .returned (.bool b) => Q b w' | _ => False) := by
    refine roundIn_of_wpIn trivial ?_
    refine wpIn_mono (iha _ _ _ _ hre hs) fun ex a1 w3 hq => ?_
    cases ex with
    | normal =>
      obtain ⟨e1, hr1, _, hmid⟩ := hq
      obtain ⟨hl3, hmid⟩ := hmid
      refine ⟨_, run_beginRound hl3 (by rw [hrec]), ?_⟩
      rw [hrec] at hl3 hmid ⊢
      have hb := hmid _ (chg_put w3 _ _) (putG hl3)
      refine wpIn_mono (ihb _ _ _ _ hr1 hb) fun ex2 a2 w4 hq2 => ?_
      cases ex2 with
      | normal =>
        obtain ⟨_, _, _, hl4, hfin⟩ := hq2
        exact ⟨_, _, run_endRound none hl4, hfin _ (chg_put w4 _ _) (putG hl4)⟩
      | ret =>
        obtain ⟨_, _, _, hl4, hfin⟩ := hq2
        exact ⟨_, _, run_endRound (some .ret) hl4, hfin _ (chg_put w4 _ _) (putG hl4)⟩
      | exit i =>
        obtain ⟨_, _, _, hl4, hfin⟩ := hq2
        exact ⟨_, _, run_endRound (some (.exit i)) hl4, hfin _ (chg_put w4 _ _) (putG hl4)⟩
      | goto i =>
        obtain ⟨_, _, _, hl4, hfin⟩ := hq2
        exact (hfin _ (chg_put w4 l (.loop (rec .ready none)))).elim
      | panic c => exact hq2.2.elim
      | outgrown => exact hq2.elim
    | panic c => exact hq.2.elim
    | outgrown => exact hq.elim
    | _ => obtain ⟨_, _, _, hk⟩ := hq; exact hk.elim
  exact ⟨trivial, fun c cs _ => hin.2 c cs (room_wide _)⟩
theorem rangeF_sound {m : Nat} {g : Operand} {ps : Array Tmp} {asn body : Code} {k : Exit → Env → World → Prop} {e : Env} {a : Act} {w : World} (hr : Rel n kp e a)
    (iha : ∀ (l : Nat) (k : Exit → Env → World → Prop) (e : Env) (a : Act) (w : World), Rel n kp e a → sh P n kp (some l) noR asn k e w → asn.wpIn (Fw (some l)) 0 P (Qs n kp (mods kp asn) noR e k) a w)
    (ihb : ∀ (l : Nat) (k : Exit → Env → World → Prop) (e : Env) (a : Act) (w : World), Rel n kp e a → sh P n kp (some l) noR body k e w → body.wpIn (Fw (some l)) 0 P (Qs n kp (mods kp body) noR e k) a w)
    (h : sh P n kp none R (.rangeFunc g ps asn body) k e w) : (Code.rangeFunc g ps asn body).wpIn (Fw none) m P (Qs n kp (mods kp (.rangeFunc g ps asn body)) R e k) a w := by
  simp only [sh] at h
  split at h
  · rename_i hg hc1 hps hnm
    have hnm' : n ≤ mkS := Nat.le_of_ble_eq_true hnm
    have hev : a.eval g = ev n e g := eval_of hr g fun t ht => by subst ht; exact .inl hg
    unfold rangeF at h
    split at h
    · rename_i gf first lb hgv
      obtain ⟨hok, h⟩ := h
      refine wpIn_rangeFunc ?_
      intro fn _
      obtain ⟨rec, hrec⟩ : ∃ rec : LoopState → Option Code → Loop, rec = fun st pe => { state := st, pending := pe, fn, tmps := a.tmps, params := ps, assign := asn, body, defers := w.heap.size } := ⟨_, rfl⟩
      obtain ⟨W1, hW1⟩ : ∃ W1, (w.alloc (.deferred (some []))).alloc (.loop (rec .ready none)) = W1 := ⟨_, rfl⟩
      have hL1 : W1.heap[w.heap.size + 1]? = some (.loop (rec .ready none)) := by
        rw [← hW1]; have := World.alloc_heap_new (w.alloc (.deferred (some []))) (.loop (rec .ready none)); rwa [World.size_alloc] at this
      have hK1 : W1.heap[w.heap.size]? = some (.deferred (some [])) := by
        rw [← hW1]; exact (RowKit.Below.heap_alloc _ _ _ (by simp)).trans (World.alloc_heap_new w _)
      have hb1 : RowKit.Below w.heap.size w W1 := by
        rw [← hW1]; exact (((RowKit.Below.refl _ w).alloc (Nat.le_refl _) _).alloc (by simp) _)
      have hsz : W1.heap.size = w.heap.size + 2 := by rw [← hW1]; simp
      have eg : ∀ args w', (callFunc gf args).run P w' = .ok (.enter gf args) w' := by
        intro args w'
        cases hf : P.funcs[gf]? with
        | none => simp [hf] at hok
        | some fn =>
          simp only [hf, Option.any_some, Bool.and_eq_true, Bool.not_eq_true'] at hok
          have h1 : ¬ fn.body = none := by intro hb; simp [hb] at hok
          have h2 : ¬ fn.name = "runtime.NumGoroutine" := by intro hb; simp [hb] at hok
          simp [callFunc, program, Sem.run_bind, Sem.run, Result.andThen, hf, h2, h1]
      have hround := round_ok (l := w.heap.size + 1) hrec (iha _) (ihb _) hps hnm' hr.2.1 hr.2.2
      have hcall := h W1 (w.heap.size + 1) w.heap.size (.loop (rec .ready none)) (.loop (rec .busy none)) (fun i => .loop (rec .done (some (codeOf i)))) (.func (.yield (w.heap.size + 1)) #[] #[]) rfl rfl hb1 hsz hK1 hL1 rfl rfl (fun _ => rfl) hround
      refine ⟨w.heap.size + 1, [{ target := .collected w.heap.size, args := #[] }], W1, { target := .fn (.func gf) lb, args := first ++ #[.func (.yield (w.heap.size + 1)) #[] #[]] }, W1, gf,
        first ++ #[.func (.yield (w.heap.size + 1)) #[] #[]] ++ lb, W1, ?_, ?_, fun _ _ => trivial, ?_, (fun h => by simp [Fence.wide] at h), ?_⟩
      · rw [← hW1, hrec]; exact run_enterLoop_outer _ _ _ _ _
      · simp only [resolve, hev, hgv]
        simp [go_sem]
      · simp [invoke, go_sem, eg]
      · refine callsIn_Fw.2 (Calls.mono hcall fun en W2 hen => ?_)
        obtain ⟨⟨v, rfl⟩, hen⟩ := hen
        have hrel : Rel n kp (upd e mkS (mkV w.heap.size (e mkS))) { a with defers := [{ target := .collected w.heap.size, args := #[] }] ++ a.defers } := by
          refine ⟨?_, hr.2.1, fun t ht hm => ?_⟩
          · rw [upd_same]; simp [mkDf, mkD_mkV, hr.1]
          · by_cases htm : t = mkS
            · omega
            · rw [upd_ne _ _ htm]; exact hr.2.2 t ht hm
        have hfr : ∀ t, memN (mods kp (.rangeFunc g ps asn body)) t = false → upd e mkS (mkV w.heap.size (e mkS)) t = e t := by
          intro t ht
          refine upd_ne _ _ fun he => ?_
          subst he
          simp [mods, memN, (beq_iff mkS mkS).2 rfl] at ht
        have hpe : ∀ st pe, (rec st pe).pending = pe := by rw [hrec]; intros; rfl
        rcases hen with ⟨hl, hk⟩ | ⟨i, f, hmem, hl, hk⟩
        · have he := run_endLoop (P := P) hl (by rw [hrec]; simp)
          rw [hpe] at he
          exact ⟨none, _, he, _, hrel, hfr, hk _ (chg_put W2 _ _)⟩
        · have hf := kxs_mem hmem
          subst hf
          have he := run_endLoop (P := P) hl (by rw [hrec]; simp)
          rw [hpe] at he
          refine ⟨some (codeOf i), _, he, ?_⟩
          cases i with
          | zero => exact wpIn_ret ⟨_, hrel, hfr, hk _ (chg_put W2 _ _)⟩
          | succ i => exact wpIn_exit ⟨_, hrel, hfr, hk _ (chg_put W2 _ _)⟩
    · exact h.elim
  · exact h.elim

theorem enterLoop_in {w : World} {l₀ : Nat} {r₀ : Loop} (h : w.heap[l₀]? = some (.loop r₀)) (fn : FuncId) (tmps : Array Value) (ps : Array Tmp) (assign body : Code) :
    (Instr.enterLoop fn tmps ps assign body (some l₀)).run P w = .ok (w.heap.size, []) (w.alloc (.loop { state := .ready, pending := none, fn, tmps, params := ps, assign, body, defers := r₀.defers })) := by
  unfold Instr.enterLoop
  simp only [Sem.run_bind, run_getLoop h, run_newObj_alloc, Result.andThen, Sem.run_pure]
theorem rangeN_sound {m l0 : Nat} {g : Operand} {ps : Array Tmp} {asn body : Code} {k : Exit → Env → World → Prop} {e : Env} {a : Act} {w : World} (hr : Rel n kp e a)
    (iha : ∀ (l : Nat) (k : Exit → Env → World → Prop) (e : Env) (a : Act) (w : World), Rel n kp e a → sh P n kp (some l) noR asn k e w → asn.wpIn (Fw (some l)) 0 P (Qs n kp (mods kp asn) noR e k) a w)
    (ihb : ∀ (l : Nat) (k : Exit → Env → World → Prop) (e : Env) (a : Act) (w : World), Rel n kp e a → sh P n kp (some l) noR body k e w → body.wpIn (Fw (some l)) 0 P (Qs n kp (mods kp body) noR e k) a w)
    (h : sh P n kp (some l0) R (.rangeFunc g ps asn body) k e w) : (Code.rangeFunc g ps asn body).wpIn (Fw (some l0)) m P (Qs n kp (mods kp (.rangeFunc g ps asn body)) R e k) a w := by
  simp only [sh] at h
  split at h
  · rename_i hg hc1 hps hnm
    have hnm' : n ≤ mkS := Nat.le_of_ble_eq_true hnm
    have hev : a.eval g = ev n e g := eval_of hr g fun t ht => by subst ht; exact .inl hg
    unfold rangeN at h
    split at h
    · rename_i gf first lb hgv
      obtain ⟨hok, ⟨r0, hl0⟩, h⟩ := h
      refine wpIn_rangeFunc ?_
      intro fn _
      obtain ⟨rec, hrec⟩ : ∃ rec : LoopState → Option Code → Loop, rec = fun st pe => { state := st, pending := pe, fn, tmps := a.tmps, params := ps, assign := asn, body, defers := r0.defers } := ⟨_, rfl⟩
      obtain ⟨W1, hW1⟩ : ∃ W1, w.alloc (.loop (rec .ready none)) = W1 := ⟨_, rfl⟩
      have hL1 : W1.heap[w.heap.size]? = some (.loop (rec .ready none)) := by rw [← hW1]; exact World.alloc_heap_new w _
      have hb1 : RowKit.Below w.heap.size w W1 := by
        rw [← hW1]; exact (RowKit.Below.refl _ w).alloc (Nat.le_refl _) _
      have hsz : W1.heap.size = w.heap.size + 1 := by rw [← hW1]; simp
      have eg : ∀ args w', (callFunc gf args).run P w' = .ok (.enter gf args) w' := by
        intro args w'
        cases hf : P.funcs[gf]? with
        | none => simp [hf] at hok
        | some fn =>
          simp only [hf, Option.any_some, Bool.and_eq_true, Bool.not_eq_true'] at hok
          have h1 : ¬ fn.body = none := by intro hb; simp [hb] at hok
          have h2 : ¬ fn.name = "runtime.NumGoroutine" := by intro hb; simp [hb] at hok
          simp [callFunc, program, Sem.run_bind, Sem.run, Result.andThen, hf, h2, h1]
      have hround := round_ok (l := w.heap.size) hrec (iha _) (ihb _) hps hnm' hr.2.1 hr.2.2
      have hcall := h W1 w.heap.size (.loop (rec .ready none)) (.loop (rec .busy none)) (fun i => .loop (rec .done (some (codeOf i)))) (.func (.yield w.heap.size) #[] #[]) rfl hb1 hsz hL1 rfl rfl (fun _ => rfl) hround
      refine ⟨w.heap.size, [], W1, { target := .fn (.func gf) lb, args := first ++ #[.func (.yield w.heap.size) #[] #[]] }, W1, gf,
        first ++ #[.func (.yield w.heap.size) #[] #[]] ++ lb, W1, ?_, ?_, fun _ _ => trivial, ?_, (fun h => by simp [Fence.wide] at h), ?_⟩
      · rw [← hW1, hrec]; exact enterLoop_in hl0 _ _ _ _ _
      · simp only [resolve, hev, hgv]
        simp [go_sem]
      · simp [invoke, go_sem, eg]
      · refine callsIn_Fw.2 (Calls.mono hcall fun en W2 hen => ?_)
        obtain ⟨⟨v, rfl⟩, hen⟩ := hen
        have hpe : ∀ st pe, (rec st pe).pending = pe := by rw [hrec]; intros; rfl
        rcases hen with ⟨hl, hk⟩ | ⟨i, f, hmem, hl, hk⟩
        · have he := run_endLoop (P := P) hl (by rw [hrec]; simp)
          rw [hpe] at he
          exact ⟨none, _, he, e, hr, fun _ _ => rfl, hk _ (chg_put W2 _ _)⟩
        · have hf := kxN_mem hmem
          subst hf
          have he := run_endLoop (P := P) hl (by rw [hrec]; simp)
          rw [hpe] at he
          refine ⟨some (codeOf i), _, he, ?_⟩
          cases i with
          | zero => exact wpIn_ret ⟨e, hr, fun _ _ => rfl, hk _ (chg_put W2 _ _)⟩
          | succ i => exact wpIn_exit ⟨e, hr, fun _ _ => rfl, hk _ (chg_put W2 _ _)⟩
    · exact h.elim
  · exact h.elim

theorem sh_all : ∀ (c : Code) (ro : Option Nat) (m : Nat) (R : Ending → World → Prop) (k : Exit → Env → World → Prop) (e : Env) (a : Act) (w : World), Rel n kp e a → sh P n kp ro R c k e w → c.wpIn (Fw ro) m P (Qs n kp (mods kp c) R e k) a w := by
  intro c
  induction c with
  | skip => exact fun ro m R k e a w hr h => wpIn_skip ⟨e, hr, fun _ _ => rfl, h⟩
  | ret => exact fun ro m R k e a w hr h => wpIn_ret ⟨e, hr, fun _ _ => rfl, h⟩
  | exit id => exact fun ro m R k e a w hr h => wpIn_exit ⟨e, hr, fun _ _ => rfl, h⟩
  | region id ops draw => exact fun ro m R k e a w hr h => region_sound hr h
  | seq x y ihx ihy =>
    intro ro m R k e a w hr h
    have key : ∀ k', sh P n kp ro R x (nrm k k') e w → (∀ e' a' w', Rel n kp e' a' → (∀ t, memN (mods kp x) t = false → e' t = e t) → k' e' w' → sh P n kp ro R y k e' w') →
        (Code.seq x y).wpIn (Fw ro) m P (Qs n kp (mods kp (.seq x y)) R e k) a w := by
      intro k' h' hk'
      refine wpIn_seq (wpIn_mono (ihx _ _ _ _ _ _ _ hr h') fun ex a' w' hq => ?_)
      cases ex with
      | normal =>
        obtain ⟨e', hr', hf, hk⟩ := hq
        refine wpIn_mono (ihy _ _ _ _ _ _ _ hr' (hk' e' a' w' hr' hf hk)) fun ex2 a2 w2 hq2 => ?_
        cases ex2 with
        | panic c => exact Qs_pan2 (k' := k) hq2 (fun ht => (union_ff ht).2) (fun ht => hf _ (union_ff ht).1)
        | outgrown => exact hq2
        | _ =>
          obtain ⟨e2, hr2, hf2, hk2⟩ := hq2
          exact ⟨e2, hr2, fun t ht => by obtain ⟨h1, h2⟩ := union_ff ht; rw [hf2 t h2, hf t h1], hk2⟩
      | panic c => exact Qs_pan (k' := k) hq (fun ht => (union_ff ht).1) rfl
      | outgrown => exact hq
      | _ =>
        obtain ⟨e', hr', hf, hk⟩ := hq
        exact ⟨e', hr', fun t ht => hf t (union_ff ht).1, hk⟩
    simp only [sh] at h
    split at h
    · exact key _ h fun e' a' w' _ _ hk => hk
    · refine key _ h fun e' a' w' _ hf hk => ?_
      have hk' : sh P n kp ro R y k (mix (mods kp x) e' e) w' := hk
      rw [mix_self hf] at hk'
      exact hk'
  | cond c x y ihx ihy =>
    intro ro m R k e a w hr h
    simp only [sh] at h
    split at h
    · rename_i hin
      have hev : a.eval c = ev n e c := eval_of hr c fun t ht => by subst ht; exact .inl hin
      unfold cond at h
      have hmono : ∀ (z : Code), (∀ t, memN (union (mods kp x) (mods kp y)) t = false → memN (mods kp z) t = false) → z.wpIn (Fw ro) m P (Qs n kp (mods kp z) R e k) a w → z.wpIn (Fw ro) m P (Qs n kp (mods kp (.cond c x y)) R e k) a w := fun z hz hw =>
        wpIn_mono hw fun ex a' w' hq => by
          cases ex with
          | panic c => exact Qs_pan (k' := k) hq (fun ht => hz _ ht) rfl
          | outgrown => exact hq
          | _ => obtain ⟨e', hr', hf, hk⟩ := hq; exact ⟨e', hr', fun t ht => hf t (hz t ht), hk⟩
      split at h
      · rename_i hb
        exact wpIn_cond_true (hev.trans hb) (hmono x (fun t ht => (union_ff ht).1) (ihx _ _ _ _ _ _ _ hr h))
      · rename_i hb
        exact wpIn_cond_false (hev.trans hb) (hmono y (fun t ht => (union_ff ht).2) (ihy _ _ _ _ _ _ _ hr h))
      · exact h.elim
    · exact h.elim
  | block id c ih =>
    intro ro m R k e a w hr h
    refine wpIn_block (wpIn_mono (ih _ _ _ _ _ _ _ hr h) fun ex a' w' hq => ?_)
    cases ex with
    | exit i =>
      obtain ⟨e', hr', hf, hk⟩ := hq
      simp only [Exit.inBlock]
      by_cases hi : i = id
      · subst hi
        simp only [blk, (beq_iff i i).2 rfl] at hk
        simp only [if_true]
        exact ⟨e', hr', hf, hk⟩
      · simp only [blk, beq_ff hi] at hk
        simp only [hi, if_false]
        exact ⟨e', hr', hf, hk⟩
    | panic c => exact hq
    | outgrown => exact hq
    | _ => exact hq
  | loop c ih =>
    intro ro m R k e a w hr h
    obtain ⟨I, μ, h0, hround⟩ := h
    have hself : mix (mods kp c) e e = e := mix_self fun _ _ => rfl
    refine wpIn_loop_ghost (fun m a w => ∃ g, Rel n kp (mix (mods kp c) g e) a ∧ I g w ∧ μ g w = m) (μ e w) ⟨e, by rw [hself]; exact hr, h0, rfl⟩ ?_
    rintro m a w ⟨g, hr, hI, rfl⟩
    have hmix : ∀ t, memN (mods kp c) t = false → mix (mods kp c) g e t = e t := fun t ht => by unfold mix; rw [ht]
    refine wpIn_mono (ih _ _ _ _ _ _ _ hr (hround g w hI)) fun ex a' w' hq => ?_
    cases ex with
    | normal =>
      obtain ⟨e', hr', hf, hI', hlt⟩ := hq
      refine ⟨_, hlt, e', ?_, hI', rfl⟩
      rw [mix_self fun t ht => by rw [hf t ht, hmix t ht]]
      exact hr'
    | panic c => exact Qs_pan2 (k' := k) hq id (fun ht => hmix _ ht)
    | outgrown => exact hq
    | _ =>
      obtain ⟨e', hr', hf, hk⟩ := hq
      exact ⟨e', hr', fun t ht => by rw [hf t ht, hmix t ht], hk⟩
  | rangeFunc g ps asn body iha ihb =>
    intro ro m R k e a w hr h
    cases ro with
    | none => exact rangeF_sound hr (fun l k => iha (some l) 0 noR k) (fun l k => ihb (some l) 0 noR k) h
    | some l0 => exact rangeN_sound hr (fun l k => iha (some l) 0 noR k) (fun l k => ihb (some l) 0 noR k) h
  | _ => exact fun ro m R k e a w hr h => h.elim

theorem sh_sound {m : Nat} (c : Code) (k : Exit → Env → World → Prop) (e : Env) (a : Act) (w : World) (hr : Rel n kp e a) (h : sh P n kp none R c k e w) : c.wpIn (Fw none) m P (Qs n kp (mods kp c) R e k) a w := sh_all c none m R k e a w hr h

/-! ### A function -/
theorem getD_append_undef (l : List Value) (m t : Nat) : (l.toArray ++ Array.replicate m undef).getD t undef = ini l t := by
  have h1 : ∀ (l : List Value) t, (l ++ List.replicate m undef)[t]?.getD undef = ini l t := by
    intro l
    induction l with
    | nil =>
      intro t
      simp only [List.nil_append, ini]
      by_cases h : t < m
      · simp [h]
      · simp [List.getElem?_eq_none (l := List.replicate m undef) (by simpa using h)]
    | cons v vs ih =>
      intro t
      cases t with
      | zero => simp [ini]
      | succ t => simpa [ini] using ih t
  have h2 : (l.toArray ++ Array.replicate m undef) = (l ++ List.replicate m undef).toArray := by simp
  rw [h2, Array.getD_eq_getD_getElem?, List.getElem?_toArray]
  exact h1 l t

def resV (a : Act) : ResultVar → Sem Value
  | .tmp t => pure (a.tmps.getD t undef)
  | .cell c t => do loadVar t (← asAddr (a.tmps.getD c undef))
theorem results_eq (fn : Func) (a : Act) : results fn a.tmps = (do
    let vs ← List.toArray <$> fn.results.toList.mapM (resV a)
    pure (if h : vs.size = 1 then vs[0] else .tuple vs)) := by
  unfold results
  rw [Array.mapM_eq_mapM_toList]
  congr 3
theorem loadAt_ok {t : TypeId} {x v : Value} {w w' : World} (h : (Instr.loadAt t x).run P w = .ok v w') : (do loadVar t (← asAddr x) : Sem Value).run P w = .ok v w' := by
  unfold Instr.loadAt at h
  cases x with
  | pointer p =>
    cases p with
    | none => simp [Instr.sureAddr, stuck, Sem.run_bind, Sem.run, Result.andThen] at h
    | some p => exact h
  | _ => simp [Instr.sureAddr, stuck, Sem.run_bind, Sem.run, Result.andThen] at h
theorem resl_sound {e : Env} {a : Act} {w : World} (hr : Rel n kp e a) : ∀ (rs : List ResultVar) (K : List Value → Prop), resIn kp rs = true → resl P n e w rs K →
    ∃ vs, (rs.mapM (resV a)).run P w = .ok vs w ∧ K vs
  | [], K, _, h => ⟨[], rfl, h⟩
  | .tmp t :: rs, K, hin, h => by
    simp only [resIn] at hin
    split at hin
    · rename_i hk
      obtain ⟨vs, h1, h2⟩ := resl_sound hr rs _ hin h
      have hev := eval_of hr (.tmp t) (fun t' h => by cases h; exact .inl hk)
      simp only [Act.eval, ev] at hev
      refine ⟨rd n e t :: vs, ?_, h2⟩
      rw [List.mapM_cons]
      simp only [resV, Sem.run_bind, h1, Sem.run_pure, Result.andThen, hev]
    · cases hin
  | .cell c t :: rs, K, hin, h => by
    simp only [resIn] at hin
    split at hin
    · rename_i hk
      have hev := eval_of hr (.tmp c) (fun t' h => by cases h; exact .inl hk)
      simp only [Act.eval, ev] at hev
      simp only [resl] at h
      unfold ldv at h
      split at h
      · rename_i v w' hrun
        obtain ⟨rfl, h⟩ := h
        obtain ⟨vs, h1, h2⟩ := resl_sound hr rs _ hin h
        have h3 := loadAt_ok hrun
        refine ⟨v :: vs, ?_, h2⟩
        rw [List.mapM_cons]
        rw [← hev] at h3
        have h4 : (resV a (.cell c t)).run P w' = .ok v w' := h3
        rw [Sem.run_bind, h4]
        simp only [Result.andThen, Sem.run_bind, h1, Sem.run_pure]
      · exact h.elim
    · cases hin

theorem ini_undef : ∀ (l : List Value) (t : Nat), l.length ≤ t → ini l t = undef
  | [], _, _ => rfl
  | v :: vs, 0, h => by simp at h
  | v :: vs, t + 1, h => ini_undef vs t (by simpa using h)
theorem leaveM_sound {m : Nat} {fn : Func} {tmps : Array Value} : ∀ (Ds : List Nat) (w : World), leaveM Ds w (fun w => ∃ v, (results fn tmps).run P w = .ok v w ∧ R (.returned v) w) →
    LeavesInM (Fw none) m P fn tmps R (Ds.map fun D => { target := .collected D, args := #[] }) .returning w
  | [], w, h => h
  | D :: Ds, w, h => by
    obtain ⟨hD, h⟩ := h
    exact ⟨by simp, .inl ⟨D, _, rfl, run_takeDeferred hD, leaveM_sound Ds _ (h _ (chg_put w D _))⟩⟩
theorem leaveM_mono {K K' : World → Prop} (hk : ∀ w, K w → K' w) : ∀ (Ds : List Nat) (w : World), leaveM Ds w K → leaveM Ds w K'
  | [], w, h => hk w h
  | D :: Ds, w, h => ⟨h.1, fun w' hw => leaveM_mono hk Ds w' (h.2 w' hw)⟩
theorem shF_sound {f : FuncId} {args : List Value} {w : World} (h : shF P f kp args R w) : Calls P f args.toArray w R := by
  unfold shF at h
  split at h
  · rename_i fn hf
    split at h
    · rename_i c hb
      split at h
      · rename_i hin hle hnm
        have hle' : args.length ≤ fn.ntmps := Nat.le_of_ble_eq_true hle
        have hnm' : fn.ntmps ≤ mkS := Nat.le_of_ble_eq_true hnm
        have hini : ini args mkS = undef := ini_undef args mkS (by omega)
        have hrel : Rel fn.ntmps kp (ini args) { tmps := args.toArray ++ Array.replicate (fn.ntmps - args.toArray.size) undef, defers := [] } :=
          ⟨by rw [hini]; rfl, by simp; omega, fun t _ _ => getD_append_undef args _ t⟩
        have fin : ∀ (e' : Env) (a' : Act) (w' : World), Rel fn.ntmps kp e' a' → resl P fn.ntmps e' w' fn.results.toList (resK R w') → ∃ v, (results fn a'.tmps).run P w' = .ok v w' ∧ R (.returned v) w' := by
          intro e' a' w' hr' hk
          obtain ⟨vs, h1, h2⟩ := resl_sound hr' _ _ hin hk
          refine ⟨if h : vs.toArray.size = 1 then vs.toArray[0] else .tuple vs.toArray, ?_, ?_⟩
          · rw [results_eq]
            have h3 : (List.toArray <$> fn.results.toList.mapM (resV a') : Sem (Array Value)).run P w' = .ok vs.toArray w' := by
              rw [map_eq_pure_bind, Sem.run_bind, h1]; rfl
            rw [Sem.run_bind, h3]; rfl
          · cases vs with
            | nil => exact h2
            | cons v vs => cases vs with
              | nil => exact h2
              | cons v2 vs => exact h2
        split at h
        · rename_i hmem
          refine calls_of_wp hf hb ((wpIn_wide (n := 0)).1 ?_)
          refine wpIn_mono (sh_sound (m := 0) c _ _ _ _ hrel h) fun ex a' w' hq => ?_
          cases ex with
          | normal => obtain ⟨e', hr', hfr, hk⟩ := hq; exact ⟨by rw [hr'.1, hfr mkS hmem, hini]; rfl, fin e' a' w' hr' hk⟩
          | ret => obtain ⟨e', hr', hfr, hk⟩ := hq; exact ⟨by rw [hr'.1, hfr mkS hmem, hini]; rfl, fin e' a' w' hr' hk⟩
          | panic c => obtain ⟨⟨v, h1, h2⟩, h3⟩ := hq; exact ⟨by rw [h1, h2 hmem, hini]; rfl, h3⟩
          | outgrown => exact hq.elim
          | exit i => obtain ⟨e', hr', _, hk⟩ := hq; exact hk.elim
          | goto l => obtain ⟨e', hr', _, hk⟩ := hq; exact hk.elim
        · refine (callsIn_Fw (ro := none) (m := 0)).1 (callsIn_of_wp_marks hf hb trivial ?_ rfl)
          refine wpIn_mono (sh_sound (m := 0) c _ _ _ _ hrel h) fun ex a' w' hq => ?_
          cases ex with
          | normal => obtain ⟨e', hr', _, hk⟩ := hq; simp only [bodyPostM]; rw [hr'.1]; exact leaveM_sound _ _ (leaveM_mono (fun w hw => fin e' a' w hr' hw) _ _ hk)
          | ret => obtain ⟨e', hr', _, hk⟩ := hq; simp only [bodyPostM]; rw [hr'.1]; exact leaveM_sound _ _ (leaveM_mono (fun w hw => fin e' a' w hr' hw) _ _ hk)
          | panic c => exact hq.2.elim
          | outgrown => exact hq.elim
          | exit i => obtain ⟨e', hr', _, hk⟩ := hq; exact hk.elim
          | goto l => obtain ⟨e', hr', _, hk⟩ := hq; exact hk.elim
      · exact h.elim
    · exact h.elim
  · exact h.elim
end Go.Sh
