/-
  The example, in plain Lean. No condition.
-/
import Derived.Test.YtkjkmahpkfbbnaaGreatDoorGramText
import Derived.KernelRfl
set_option linter.unusedVariables false
namespace Gs
open Go Go.Sh
def aL1 : List Int := [125, 64, 194, 17, 64, 193, 193]
def aI1 : Inb := ⟨125, false, 2, [(1, [⟨193, false, false, 0, 0⟩])]⟩
theorem al_1 : inbF [125, 64, 194, 17, 64, 193, 193] = .ok aI1 := by
  rw [inbF_3]
  have h : itemsF [17, 64, 193, 193] = .ok [(1, [⟨193, false, false, 0, 0⟩])] := (itemsF_W (n := 6) (xs := [(1, [⟨193, false, false, 0, 0⟩])]) (by rfl)).1
  rw [h]; rfl
theorem al_2 : inbF [108] = .ok ⟨108, true, 0, []⟩ := rfl
theorem al_3 : inbF [125, 64] = .error 20 := rfl
theorem al_w : writeM aI1 6 = .ok [125, 64, 194, 17, 64, 193, 193] := by kernel_rfl
theorem al_t1 : txtL 37 aI1 = [69, 78, 84, 69, 82, 32, 64, 50, 32, 49, 61, 65] := by decide +kernel
theorem al_t2 : txtL 37 ⟨108, true, 0, []⟩ = [80, 65, 49] := by decide +kernel
theorem al_b : bufF [96, 64, 64, 29, 240, 193] = .ok (96, 0, [⟨48, false, true, 0, 0⟩, ⟨193, false, false, 0, 0⟩]) := by
  have h2 : bcellsF [193] = .ok [⟨193, false, false, 0, 0⟩] := by
    rw [bcellsF_on (l := [193]) (r := []) (x := ⟨193, false, false, 0, 0⟩) (by decide) (by rfl)]
    have : bcellsF [] = .ok [] := by unfold bcellsF; simp
    rw [this]; rfl
  have h1 : bcellsF [29, 240, 193] = .ok [⟨48, false, true, 0, 0⟩, ⟨193, false, false, 0, 0⟩] := by
    rw [bcellsF_on (l := [29, 240, 193]) (r := [193]) (x := ⟨48, false, true, 0, 0⟩) (by decide) (by rfl), h2]; rfl
  exact bufF_ok (r := [64, 64, 29, 240, 193]) (r2 := [29, 240, 193]) rfl rfl h1
theorem its_of {l : List It} {L : List (Int × List Cell)} (h : its l = L) {p : Int → List Cell → Prop} (hp : ∀ y ∈ L, p y.1 y.2) : ∀ x ∈ l, p x.at' x.cs := fun x hx => hp (x.at', x.cs) (by rw [← h]; exact List.mem_map.2 ⟨x, hx, rfl⟩)
end Gs
