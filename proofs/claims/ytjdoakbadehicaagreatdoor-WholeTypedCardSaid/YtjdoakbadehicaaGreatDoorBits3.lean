/-
  Shifts, and sums of bits that do not meet. No program, no condition.
-/
import Derived.Test.YtjdoakbadehicaaGreatDoorBits2
namespace Go.Sh
open Go
variable {P : Program} {w : World}
theorem shr6 (t : TypeId) (x : Int) : (binOp .shr t (.int .i64 x) (.int .u64 6)).run P w = .ok (.int .i64 (x / 64)) w := by
  have h : (binOp .shr t (.int .i64 x) (.int .u64 6)).run P w = (Op.shift .shr .i64 x .u64 6).run P w := rfl
  rw [h, shift_shr _ _ _ _ (by decide) (by decide)]; rfl
theorem shr8 (t : TypeId) (x : Int) : (binOp .shr t (.int .i64 x) (.int .u64 8)).run P w = .ok (.int .i64 (x / 256)) w := by
  have h : (binOp .shr t (.int .i64 x) (.int .u64 8)).run P w = (Op.shift .shr .i64 x .u64 8).run P w := rfl
  rw [h, shift_shr _ _ _ _ (by decide) (by decide)]; rfl
theorem shr4u (t : TypeId) (x : Int) : (binOp .shr t (.int .u8 x) (.int .u64 4)).run P w = .ok (.int .u8 (x / 16)) w := by
  have h : (binOp .shr t (.int .u8 x) (.int .u64 4)).run P w = (Op.shift .shr .u8 x .u64 4).run P w := rfl
  rw [h, shift_shr _ _ _ _ (by decide) (by decide)]; rfl
theorem shl6 (t : TypeId) {x : Int} (h0 : 0 ≤ x ∧ x ≤ 65535) : (binOp .shl t (.int .i64 x) (.int .u64 6)).run P w = .ok (.int .i64 (x * 64)) w := by
  have h : (binOp .shl t (.int .i64 x) (.int .u64 6)).run P w = (Op.shift .shl .i64 x .u64 6).run P w := rfl
  rw [h, shift_shl _ _ _ _ (by decide) (by decide)]
  show Result.ok (Value.int .i64 (IntKind.i64.wrap (x * 64))) w = _
  rw [wrap_i64 (by omega) (by omega)]
theorem shl8 (t : TypeId) {x : Int} (h0 : 0 ≤ x ∧ x ≤ 65535) : (binOp .shl t (.int .i64 x) (.int .u64 8)).run P w = .ok (.int .i64 (x * 256)) w := by
  have h : (binOp .shl t (.int .i64 x) (.int .u64 8)).run P w = (Op.shift .shl .i64 x .u64 8).run P w := rfl
  rw [h, shift_shl _ _ _ _ (by decide) (by decide)]
  show Result.ok (Value.int .i64 (IntKind.i64.wrap (x * 256))) w = _
  rw [wrap_i64 (by omega) (by omega)]
theorem or_low {x y : Int} (j : Nat) (hx : 0 ≤ x) (hd : x % ((2 ^ j : Nat) : Int) = 0) (hy : 0 ≤ y) (hy2 : y < ((2 ^ j : Nat) : Int)) (hb : x + y ≤ 9223372036854775807) : bits .or .i64 x y = x + y := by
  obtain ⟨a, rfl⟩ := Int.eq_ofNat_of_zero_le hx
  obtain ⟨b, rfl⟩ := Int.eq_ofNat_of_zero_le hy
  have hd' : a % 2 ^ j = 0 := by exact_mod_cast hd
  have hb' : b < 2 ^ j := by exact_mod_cast hy2
  have e64 : ((2 ^ IntKind.i64.bits : Nat) : Int) = 18446744073709551616 := by decide
  have key : (BitVec.ofInt IntKind.i64.bits (a : Int) ||| BitVec.ofInt IntKind.i64.bits (b : Int)).toNat = a + b := by
    rw [BitVec.toNat_or, BitVec.toNat_ofInt, BitVec.toNat_ofInt, e64]
    rw [Int.emod_eq_of_lt (by omega) (by omega), Int.emod_eq_of_lt (by omega) (by omega), Int.toNat_natCast, Int.toNat_natCast]
    have h1 := Nat.shiftLeft_add_eq_or_of_lt hb' (a / 2 ^ j)
    rw [Nat.shiftLeft_eq, Nat.div_mul_cancel (Nat.dvd_of_mod_eq_zero hd')] at h1
    exact h1.symm
  show IntKind.i64.wrap (((BitVec.ofInt IntKind.i64.bits (a : Int) ||| BitVec.ofInt IntKind.i64.bits (b : Int)).toNat : Nat) : Int) = _
  rw [key, wrap_i64 (by omega) (by omega)]
  omega
theorem or6 (t : TypeId) {x y : Int} (h : 0 ≤ x ∧ x % 64 = 0 ∧ x ≤ 4294967296) (hy : 0 ≤ y ∧ y < 64) : (binOp .or t (.int .i64 x) (.int .i64 y)).run P w = .ok (.int .i64 (x + y)) w := by
  rw [orB, or_low 6 h.1 h.2.1 hy.1 hy.2 (by omega)]
theorem or8 (t : TypeId) {x y : Int} (h : 0 ≤ x ∧ x % 256 = 0 ∧ x ≤ 4294967296) (hy : 0 ≤ y ∧ y < 256) : (binOp .or t (.int .i64 x) (.int .i64 y)).run P w = .ok (.int .i64 (x + y)) w := by
  rw [orB, or_low 8 h.1 h.2.1 hy.1 hy.2 (by omega)]
theorem and_63 (t : TypeId) (x : Int) : (binOp .and t (.int .i64 x) (.int .i64 63)).run P w = .ok (.int .i64 (x % 64)) w := by
  have := bits_low x 6 (by decide)
  have h : (binOp .and t (.int .i64 x) (.int .i64 63)).run P w = .ok (.int .i64 (bits .and .i64 x 63)) w := rfl
  rw [h, show (63 : Int) = ((2 ^ 6 - 1 : Nat) : Int) from rfl, this]; rfl
theorem and_15 (t : TypeId) (x : Int) : (binOp .and t (.int .i64 x) (.int .i64 15)).run P w = .ok (.int .i64 (x % 16)) w := by
  have := bits_low x 4 (by decide)
  have h : (binOp .and t (.int .i64 x) (.int .i64 15)).run P w = .ok (.int .i64 (bits .and .i64 x 15)) w := rfl
  rw [h, show (15 : Int) = ((2 ^ 4 - 1 : Nat) : Int) from rfl, this]; rfl
theorem and_u8_15 {x : Int} (hx : 0 ≤ x ∧ x ≤ 255) : bits .and .u8 x 15 = x % 16 := u8_all (p := fun x => bits .and .u8 x 15 = x % 16) (by decide +kernel) hx
theorem and8_15 (t : TypeId) {x : Int} (hx : 0 ≤ x ∧ x ≤ 255) : (binOp .and t (.int .u8 x) (.int .u8 15)).run P w = .ok (.int .u8 (x % 16)) w := by rw [andB, and_u8_15 hx]
theorem andNot_u8_63 {x : Int} (hx : 0 ≤ x ∧ x ≤ 255) : bits .andNot .u8 x 63 = x / 64 * 64 := u8_all (p := fun x => bits .andNot .u8 x 63 = x / 64 * 64) (by decide +kernel) hx
theorem andNot8_63 (t : TypeId) {x : Int} (hx : 0 ≤ x ∧ x ≤ 255) : (binOp .andNot t (.int .u8 x) (.int .u8 63)).run P w = .ok (.int .u8 (x / 64 * 64)) w := by rw [andNotB, andNot_u8_63 hx]
end Go.Sh
namespace Go.Sh
open Go
variable {P : Program} {w : World}
theorem conv_w8 {s t : TypeId} {k : IntKind} {n : Int} (hs : (intK P s).isSome = true) (ht : intK P t = some .u8) : (convert s t (.int k n)).run P w = .ok (.int .u8 (n % 256)) w := by
  rw [convII hs ht, IntKind.wrap_u8]
end Go.Sh
