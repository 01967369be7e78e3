/-
  Deferred closures that recover: what stands behind their first region, walked as a shallow form. No condition.
-/
import Derived.Test.YtjdoakbadehicaaGreatDoorShRules
import Derived.Defers
import Derived.Recover
import Derived.WideLaws
import Derived.KernelRfl
namespace Go.Sh
open Go
variable {P : Program} {R : Ending → World → Prop} {w : World}
def restC (f : Func) : Code := match f.body with | some (.seq _ r) => r | _ => .skip
def headC (f : Func) : Code := match f.body with | some (.seq h _) => h | _ => .skip
theorem body_parts {f : Func} {h r : Code} (hb : f.body = some (.seq h r)) : f.body = some (.seq h (restC f)) := by
  unfold restC; rw [hb]
theorem rest_wpS {c : Code} {n : Nat} {kp : List Nat} {e : Env} {a : Act} {fn : Func} {c₀ : Frame} {cs cs' : List Frame} {u' : FrameMode} (hcs : cs' = { c₀ with mode := u' } :: cs) (hr : Rel n kp e a) (hmk : memN (mods kp c) mkS = false) (he : e mkS = undef) (hres : fn.results = #[])
    (h : sh P n kp none R c (kfun P n [] R) e w) : c.wpS P (bodyPostS P fn c₀ cs fun e' u w' => u = u' ∧ R e' w') a cs' w := by
  subst hcs
  refine wpS_of_wp ((wpIn_wide (n := 0)).1 ?_)
  refine wpIn_mono (sh_sound (m := 0) c _ _ _ _ hr h) fun ex a' w' hq => ?_
  have hd0 : mkDf undef = [] := rfl
  have hres' : (results fn a'.tmps).run P w' = .ok (.tuple #[]) w' := by
    exact results_none hres _ _ _
  cases ex with
  | normal =>
    obtain ⟨e', hr', hfr, hk⟩ := hq
    exact ⟨by rw [hr'.1, hfr mkS hmk, he, hd0], u', rfl, _, hres', rfl, hk⟩
  | ret =>
    obtain ⟨e', hr', hfr, hk⟩ := hq
    exact ⟨by rw [hr'.1, hfr mkS hmk, he, hd0], u', rfl, _, hres', rfl, hk⟩
  | panic c =>
    obtain ⟨⟨v, h1, h2⟩, h3⟩ := hq
    exact ⟨by rw [h1, h2 hmk, he, hd0], u', rfl, rfl, h3⟩
  | outgrown => exact hq.elim
  | exit i => obtain ⟨e', hr', _, hk⟩ := hq; exact hk.elim
  | goto l => obtain ⟨e', hr', _, hk⟩ := hq; exact hk.elim
/-- An array of slots, and the values by slots. -/
theorem rel_of {n : Nat} {kp : List Nat} {a : Act} {e : Env} (hd : a.defers = []) (hl : a.tmps.size = n) (he : e mkS = undef) (h : ∀ t, memN kp t = true → a.tmps.getD t undef = e t) : Rel n kp e a :=
  ⟨by rw [he, hd]; rfl, hl, fun t _ ht => h t (ht.resolve_right (by simp [memN]))⟩
theorem memN_all {kp : List Nat} {p : Nat → Prop} (h : ∀ t ∈ kp, p t) : ∀ t, memN kp t = true → p t := fun t ht => h t ((memN_mem kp t).1 ht)
/-! Interfaces. -/
theorem eqIfN {c : Bool} {t xt : TypeId} {v : Value} (hu : P.underlying t = some (.interface (P.methodsAt t))) : (binE c .eql t (.iface xt v) .nilIface).run P w = .ok (.bool false) w := by
  cases c <;> simp [binE, go_sem, run_eql_held_nil w t xt v hu]
theorem neIfN {c : Bool} {t xt : TypeId} {v : Value} (hu : P.underlying t = some (.interface (P.methodsAt t))) : (binE c .neq t (.iface xt v) .nilIface).run P w = .ok (.bool true) w := by
  cases c <;> simp [binE, go_sem, run_neq_held_nil w t xt v hu]
theorem eqNN {t : TypeId} (hu : P.underlying t = some (.interface (P.methodsAt t))) : (binE true .eql t .nilIface .nilIface).run P w = .ok (.bool true) w := by
  simp [binE, go_sem, run_eql_nil_nil w t hu]
theorem assertT {t xt : TypeId} {v : Value} (h : (match P.underlying t with | some (.interface _) => false | some _ => true | none => false) = true) : (Instr.typeAssert (.iface t v) xt t true).run P w = .ok (.tuple #[v, .bool true]) w := by
  split at h
  · cases h
  · rename_i d hd hu
    cases d <;> first
      | exact absurd rfl (by rename_i ms; exact hd ms)
      | simp [Instr.typeAssert, Sem.run_bind, Result.andThen, run_underlying hu]
  · cases h
end Go.Sh
namespace Go.Sh
open Go
variable {P : Program} {w : World}
/-- What is handed back, read off the values by slots. -/
theorem results_of {fn : Func} {kp : List Nat} {e : Env} {a : Act} {R : Ending → World → Prop} (hr : Rel fn.ntmps kp e a) (hin : resIn kp fn.results.toList = true) (h : resl P fn.ntmps e w fn.results.toList (resK R w)) : ∃ v, (results fn a.tmps).run P w = .ok v w ∧ R (.returned v) w := by
  obtain ⟨vs, h1, h2⟩ := resl_sound hr _ _ hin h
  refine ⟨if h : vs.toArray.size = 1 then vs.toArray[0] else .tuple vs.toArray, ?_, ?_⟩
  · rw [results_eq]
    have h3 : (List.toArray <$> fn.results.toList.mapM (resV a) : Sem (Array Value)).run P w = .ok vs.toArray w := by
      rw [map_eq_pure_bind, Sem.run_bind, h1]; rfl
    rw [Sem.run_bind, h3]; rfl
  · cases vs with
    | nil => exact h2
    | cons v vs => cases vs with
      | nil => exact h2
      | cons v2 vs => exact h2
theorem alloc_heap (w : World) (o : Obj) : (w.alloc o).heap = w.heap.push o := rfl
theorem alloc_upd (w : World) (o : Obj) : Upd no w (w.alloc o) := ⟨rfl, rfl, rfl, by rw [alloc_heap, Array.size_push]; omega, fun k hk _ => by rw [alloc_heap, Array.getElem?_push, if_neg (by omega)]⟩
theorem alloc_size (w : World) (o : Obj) : (w.alloc o).heap.size = w.heap.size + 1 := by rw [alloc_heap, Array.size_push]
theorem alloc_new (w : World) (o : Obj) : (w.alloc o).heap[w.heap.size]? = some o := by rw [alloc_heap, Array.getElem?_push, if_pos rfl]
end Go.Sh
