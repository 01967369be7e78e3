/-
  What is read of bytes, or the error's number that the reader gives up with. No condition but the ones that each states.
-/
import Derived.Test.YtjdoakbadehicaaGreatDoorGc
import Derived.Tactics
import Derived.Tactics2
import Derived.Laws.Pointers
namespace Go.Proofs.YtjdoakbadehicaaGreatDoor
open Go Go.Sh
set_option linter.unusedVariables false
set_option maxRecDepth 100000
theorem d_inb_P {r4 r5 : Nat} {x : Int} {w : World} (h_r4 : w.heap[r4]? = some (.cells #[.int .u8 0, .bool false, .int .i64 0, .slice none 0 0] 48 (0, 0))) (h_r5 : w.heap[r5]? = some (.cells #[.int .i64 0] 25 (0, 0))) (hne : r4 ≠ r5) :
    CallsD Tryz.prog 94 #[.pointer (some ⟨r4, 0, none⟩), .pointer (some ⟨r5, 0, none⟩)] (.panicking (flt 149 x)) w fun e u w' => u = FrameMode.panicking [{ v := .iface 149 (.agg #[.int .i64 x]), recovered := true }] ∧ (e = .returned (.tuple #[]) ∧ w'.heap[r4]? = some (.cells #[.int .u8 0, .bool false, .int .i64 0, .slice none 0 0] 48 (0, 0)) ∧ w'.heap[r5]? = some (.cells #[.int .i64 x] 25 (0, 0)) ∧ Upd (fun k => k = r4 ∨ k = r5) w w') := by
  obtain ⟨id, t1, p1, a1, t2, p2, a2, ho⟩ : ∃ id t1 p1 a1 t2 p2 a2, headC Tryz.f94 = .region id #[{ dst := some 6, op := .call { callee := .builtin .recover, args := #[], argTypes := #[] }, type := t1, pos := p1, after := a1, guard := none }, { dst := some 2, op := .assign (.tmp 6), type := t2, pos := p2, after := a2, guard := none }] false := ⟨_, _, _, _, _, _, _, rfl⟩
  refine callsD_of_wpS Tryz.func94 (show Tryz.f94.body = some (.seq (headC Tryz.f94) (restC Tryz.f94)) by kernel_rfl) fun c₀ cs hu => ?_
  rw [ho]
  apply wpS_seq
  apply wpS_region
  simp [wpOpsS, go_sem, recoverD, hu, flt, Tryz.ntmps94, Exit.thenS]
  have h := r_inb_P (x := x) h_r4 h_r5 hne
  rw [F94r.eq] at h
  refine rest_wpS (fn := Tryz.f94) ?_ ?_ (by kernel_rfl) rfl rfl h
  · rfl
  refine rel_of rfl (by kernel_rfl) rfl (memN_all ?_)
  repeat (refine List.forall_mem_cons.2 ⟨?_, ?_⟩; · first | (simp [ini]; done) | kernel_rfl)
  exact fun _ h => nomatch h
theorem d_inb_I {r4 r5 : Nat} {w : World} :
    CallsD Tryz.prog 94 #[.pointer (some ⟨r4, 0, none⟩), .pointer (some ⟨r5, 0, none⟩)] .returning w fun e u w' => u = FrameMode.returning ∧ (e = .returned (.tuple #[]) ∧ Upd no w w') := by
  obtain ⟨id, t1, p1, a1, t2, p2, a2, ho⟩ : ∃ id t1 p1 a1 t2 p2 a2, headC Tryz.f94 = .region id #[{ dst := some 6, op := .call { callee := .builtin .recover, args := #[], argTypes := #[] }, type := t1, pos := p1, after := a1, guard := none }, { dst := some 2, op := .assign (.tmp 6), type := t2, pos := p2, after := a2, guard := none }] false := ⟨_, _, _, _, _, _, _, rfl⟩
  refine callsD_of_wpS Tryz.func94 (show Tryz.f94.body = some (.seq (headC Tryz.f94) (restC Tryz.f94)) by kernel_rfl) fun c₀ cs hu => ?_
  rw [ho]
  apply wpS_seq
  apply wpS_region
  simp [wpOpsS, go_sem, recoverD, hu, Tryz.ntmps94, Exit.thenS]
  have h := r_inb_I (r4 := r4) (r5 := r5) (w := w)
  rw [F94r.eq] at h
  refine rest_wpS (fn := Tryz.f94) ?_ ?_ (by kernel_rfl) rfl rfl h
  · rw [← hu]
  refine rel_of rfl (by kernel_rfl) rfl (memN_all ?_)
  repeat (refine List.forall_mem_cons.2 ⟨?_, ?_⟩; · first | (simp [ini]; done) | kernel_rfl)
  exact fun _ h => nomatch h
end Go.Proofs.YtjdoakbadehicaaGreatDoor
