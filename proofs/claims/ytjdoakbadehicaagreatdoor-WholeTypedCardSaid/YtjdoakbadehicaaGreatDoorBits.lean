/-
  The low bits of an int. No program, no condition.
-/
import Derived.Test.YtjdoakbadehicaaGreatDoorRow
namespace Go.Sh
open Go
variable {P : Program} {w : World}
theorem bits_low (x : Int) (j : Nat) (hj : j ≤ 62) : bits .and .i64 x ((2 ^ j - 1 : Nat) : Int) = x % (2 ^ j : Nat) := by
  have h2 : (2 : Nat) ^ j ≤ 2 ^ 62 := Nat.pow_le_pow_right (by decide) hj
  have h1 : (0 : Nat) < 2 ^ j := Nat.two_pow_pos j
  have e2 : (2 : Nat) ^ 62 = 4611686018427387904 := by decide
  rw [e2] at h2
  have key : (BitVec.ofInt IntKind.i64.bits x &&& BitVec.ofInt IntKind.i64.bits ((2 ^ j - 1 : Nat) : Int)).toNat = (x % 18446744073709551616).toNat % 2 ^ j := by
    rw [BitVec.toNat_and, BitVec.toNat_ofInt, BitVec.toNat_ofInt]
    have e64 : ((2 ^ IntKind.i64.bits : Nat) : Int) = 18446744073709551616 := by decide
    rw [e64]
    rw [Int.emod_eq_of_lt (a := ((2 ^ j - 1 : Nat) : Int)) (by omega) (by omega), Int.toNat_natCast, Nat.and_two_pow_sub_one_eq_mod]
  have hx0 : 0 ≤ x % 18446744073709551616 := Int.emod_nonneg _ (by decide)
  have hd : ((2 ^ j : Nat) : Int) ∣ 18446744073709551616 := by
    have : ((2 : Nat) ^ j) ∣ 2 ^ 64 := Nat.pow_dvd_pow 2 (by omega)
    have e : (18446744073709551616 : Int) = ((2 ^ 64 : Nat) : Int) := by decide
    rw [e]; exact Int.natCast_dvd_natCast.2 this
  show IntKind.i64.wrap (((BitVec.ofInt IntKind.i64.bits x &&& BitVec.ofInt IntKind.i64.bits ((2 ^ j - 1 : Nat) : Int)).toNat : Nat) : Int) = _
  rw [key]
  have hl : (x % 18446744073709551616).toNat % 2 ^ j < 2 ^ j := Nat.mod_lt _ h1
  rw [wrap_i64 (by omega) (by omega), Int.natCast_emod, Int.toNat_of_nonneg hx0, Int.emod_emod_of_dvd _ hd]
theorem and_4095 (t : TypeId) (x : Int) : (binOp .and t (.int .i64 x) (.int .i64 4095)).run P w = .ok (.int .i64 (x % 4096)) w := by
  have := bits_low x 12 (by decide)
  have h : (binOp .and t (.int .i64 x) (.int .i64 4095)).run P w = .ok (.int .i64 (bits .and .i64 x 4095)) w := rfl
  rw [h, show (4095 : Int) = ((2 ^ 12 - 1 : Nat) : Int) from rfl, this]; rfl
theorem and_255 (t : TypeId) (x : Int) : (binOp .and t (.int .i64 x) (.int .i64 255)).run P w = .ok (.int .i64 (x % 256)) w := by
  have := bits_low x 8 (by decide)
  have h : (binOp .and t (.int .i64 x) (.int .i64 255)).run P w = .ok (.int .i64 (bits .and .i64 x 255)) w := rfl
  rw [h, show (255 : Int) = ((2 ^ 8 - 1 : Nat) : Int) from rfl, this]; rfl
end Go.Sh
