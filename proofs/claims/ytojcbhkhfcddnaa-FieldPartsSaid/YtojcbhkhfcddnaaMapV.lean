/-
  Maps with integers for keys: what is looked up, how many there are. No condition.
-/
import Derived.Test.YtojcbhkhfcddnaaMem
namespace Go.Sh
open Go
variable {P : Program} {w : World}
theorem lookup_intV {t kt e : TypeId} {i : IntKind} {b : Nat} {l : List (Int × Value)} {n : Int} {v : Value} (ht : mapK P t = some (kt, i, e))
    (hm : MapI w i b l) (hg : mget l n = some v) : (Instr.lookup t (.map (some b)) (.int i n) true).run P w = .ok (.tuple #[v, .bool true]) w := by
  obtain ⟨hu, hk⟩ := mapK_spec ht
  obtain ⟨es, c, hb, he⟩ := hm
  obtain ⟨r, h1, h2, _⟩ := findNow_int (n := n) es.toList l 0 he
  have hf := MapKept.run_findKey (w := w) (kt := kt) hk h1
  have hck : ∀ e, (Instr.checkKey e 10000 kt (.int i n)).run P w = .ok () w := fun e => MapKept.run_checkKey hk (by simp [MapKept.IsKey]) e 9999
  rw [hg] at h2
  cases r with
  | none => simp at h2
  | some p =>
    obtain ⟨j, v'⟩ := p
    simp at h2; subst h2
    simp [Instr.lookup, Sem.run_bind, Result.andThen, run_underlying hu, hb, hck, hf, getObj, Sem.run]
theorem len_mapI {t kt e ty : TypeId} {i : IntKind} {b : Nat} {l : List (Int × Value)} (ht : mapK P t = some (kt, i, e)) (hm : MapI w i b l) :
    (Builtin.len_ #[t] ty #[.map (some b)]).run P w = .ok (.int .i64 (l.length : Nat)) w := by
  obtain ⟨hu, hk⟩ := mapK_spec ht
  obtain ⟨es, c, hb, he⟩ := hm
  have hl : es.size = l.length := by have := congrArg List.length he; simpa using this
  simp [Builtin.len_, Sem.run_bind, Result.andThen, run_underlying hu, hb, getObj, Sem.run, hl, goInt]
theorem Own.ne_mapI {B : Nat} {w : World} {e size : Nat} {v : Value} {xs : List Value} {b : Nat} {k : IntKind} {l : List (Int × Value)} (h : Own B w e size v xs) (hb : MapI w k b l) : ∀ k, ownS v k → k ≠ b := h.not_mapI hb
end Go.Sh
