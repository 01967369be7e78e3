/-
  Parts of a string. No program, no condition.
-/
import Derived.Test.YtjdoakbadehicaaGreatDoorRow
import Derived.Laws.IdiomStrings
import Derived.Lib.SliceRun
namespace Go.Sh
open Go
variable {P : Program} {w : World}
theorem isStr_eq {t : TypeId} (h : isStr P t = true) : P.underlying t = some .string := by
  unfold isStr at h
  split at h
  · assumption
  · cases h
theorem sliceSL {t : TypeId} {s : ByteArray} {k : IntKind} {l : Int} (ht : isStr P t = true) (h0 : 0 ≤ l) (h1 : l ≤ s.size) : (Instr.sliceAt t (.string s) (some (.int k l)) none none).run P w = .ok (.string (s.extract l.toNat s.size)) w := by
  rw [run_sliceAt_string _ _ _ _ _ _ (isStr_eq ht)]; exact run_slice_string_l w t s (isStr_eq ht) k l h0 h1
theorem sliceSH {t : TypeId} {s : ByteArray} {k : IntKind} {l : Int} (ht : isStr P t = true) (h0 : 0 ≤ l) (h1 : l ≤ s.size) : (Instr.sliceAt t (.string s) none (some (.int k l)) none).run P w = .ok (.string (s.extract 0 l.toNat)) w := by
  rw [run_sliceAt_string _ _ _ _ _ _ (isStr_eq ht)]; exact run_slice_string_h w t s (isStr_eq ht) k l h0 h1
theorem sliceSB {t : TypeId} {s : ByteArray} {k k' : IntKind} {l h : Int} (ht : isStr P t = true) (h0 : 0 ≤ l) (h1 : l ≤ h) (h2 : h ≤ s.size) : (Instr.sliceAt t (.string s) (some (.int k l)) (some (.int k' h)) none).run P w = .ok (.string (s.extract l.toNat h.toNat)) w := by
  rw [run_sliceAt_string _ _ _ _ _ _ (isStr_eq ht)]; exact run_slice_string w t s k k' l h (isStr_eq ht) h0 h1 h2
end Go.Sh
