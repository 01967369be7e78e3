/-
  What cells, sizes and steps are that came in. No program, no condition.
-/
import Derived.Test.YtjdoakbadehicaaGreatDoorPlaneModel
import Derived.Test.YtjdoakbadehicaaGreatDoorArgs
namespace Gs
open Go Go.Sh
def sv (x : Int × Int) : List Value := [.int .i64 x.1, .int .i64 x.2]
theorem size_leaf : ∀ cs, LeafVs [.int .i64, .int .i64] cs → ∃ a, cs = sv a ∧ True := by
  rintro cs ⟨_, _, rfl, ⟨a, rfl, _⟩, ⟨_, _, rfl, ⟨b, rfl, _⟩, rfl⟩⟩
  exact ⟨(a, b), rfl, trivial⟩
theorem u8_bd {n : Int} (h : (Lit.int .u8 n).wf = true) : 0 ≤ n ∧ n ≤ 255 := by
  have h1 : (decide (0 ≤ n) && decide (n ≤ 255)) = true := h
  simpa using h1
theorem cell_leaf : ∀ cs, LeafVs [.int .u8, .bool, .bool, .int .u8, .int .u8] cs → ∃ a, cs = cv a ∧ Cw a := by
  rintro cs ⟨_, _, rfl, ⟨a, rfl, ha⟩, ⟨_, _, rfl, ⟨b, rfl⟩, ⟨_, _, rfl, ⟨c, rfl⟩, ⟨_, _, rfl, ⟨d, rfl, _⟩, ⟨_, _, rfl, ⟨e, rfl, _⟩, rfl⟩⟩⟩⟩⟩
  exact ⟨⟨a, b, c, d, e⟩, rfl, u8_bd ha⟩
structure Opn where
  kind : Int
  at' : Int
  to : Int
  c : Cell
def ov (o : Opn) : List Value := [.int .i64 o.kind, .int .i64 o.at', .int .i64 o.to] ++ cv o.c
def Ow (o : Opn) : Prop := Cw o.c
theorem encO : Enc ov 8 := ⟨fun _ => rfl, fun a u hu => by
  rcases List.mem_append.1 hu with hu | hu
  · simp only [List.mem_cons, List.mem_nil_iff, or_false] at hu
    rcases hu with rfl | rfl | rfl <;> rfl
  · exact encC.one _ _ hu, by decide⟩
theorem op_leaf : ∀ cs, LeafVs [.int .i64, .int .i64, .int .i64, .int .u8, .bool, .bool, .int .u8, .int .u8] cs → ∃ a, cs = ov a ∧ Ow a := by
  rintro cs ⟨_, _, rfl, ⟨k, rfl, _⟩, ⟨_, _, rfl, ⟨a, rfl, _⟩, ⟨_, _, rfl, ⟨t, rfl, _⟩, h⟩⟩⟩
  obtain ⟨x, rfl, hx⟩ := cell_leaf _ h
  exact ⟨⟨k, a, t, x⟩, rfl, hx⟩
end Gs
