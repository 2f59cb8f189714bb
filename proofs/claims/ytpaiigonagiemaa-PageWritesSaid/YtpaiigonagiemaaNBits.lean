import Derived.Test.YtpaiigonagiemaaEnc
import Derived.Laws.DeepNot64
/- Bits: all ones, none, and bytes side by side: plain lemmas. -/
set_option linter.unusedSimpArgs false
set_option linter.unusedVariables false
namespace Go.Proofs.Ytpaiigonagiemaa.Num
open Go Go.RowKit Go.Proofs.YtpaiigonagiemaaW.PrintWords Go.Proofs.YtpaiigonagiemaaW.PrintLast Go.Proofs.YtpaiigonagiemaaW.PrintMore
theorem nat_xor_ones (w x : Nat) (h : x < 2 ^ w) : (2 ^ w - 1) ^^^ x = 2 ^ w - 1 - x := by
  have e : (BitVec.allOnes w ^^^ BitVec.ofNat w x) = ~~~ (BitVec.ofNat w x) := BitVec.allOnes_xor
  have e2 := congrArg BitVec.toNat e
  rw [BitVec.toNat_xor, BitVec.toNat_allOnes, BitVec.toNat_not, BitVec.toNat_ofNat, Nat.mod_eq_of_lt h] at e2
  exact e2
theorem not64 {x : Int} (h0 : 0 ≤ x) (h1 : x ≤ 18446744073709551615) : Go.bits .xor .u64 18446744073709551615 x = 18446744073709551615 - x := by
  have := u64_xor_nat 18446744073709551615 x.toNat (by decide) (by omega)
  rw [show ((18446744073709551615 : Nat) : Int) = 18446744073709551615 from rfl, Int.toNat_of_nonneg h0] at this
  rw [this, show (18446744073709551615 : Nat) = 2 ^ 64 - 1 from rfl, nat_xor_ones 64 x.toNat (by omega)]
  omega
theorem xor64_ones {x : Int} (h0 : 0 ≤ x) (h1 : x ≤ 18446744073709551615) : Go.bits .xor .u64 x 18446744073709551615 = 18446744073709551615 - x := by
  have := u64_xor_nat x.toNat 18446744073709551615 (by omega) (by decide)
  rw [show ((18446744073709551615 : Nat) : Int) = 18446744073709551615 from rfl, Int.toNat_of_nonneg h0] at this
  rw [this, Nat.xor_comm, show (18446744073709551615 : Nat) = 2 ^ 64 - 1 from rfl, nat_xor_ones 64 x.toNat (by omega)]
  omega
theorem xor64_zero {x : Int} (h0 : 0 ≤ x) (h1 : x ≤ 18446744073709551615) : Go.bits .xor .u64 x 0 = x := by
  have := u64_xor_nat x.toNat 0 (by omega) (by decide)
  rw [show ((0 : Nat) : Int) = 0 from rfl, Int.toNat_of_nonneg h0] at this
  rw [this, Nat.xor_zero]
  omega
theorem not32 {x : Int} (h0 : 0 ≤ x) (h1 : x ≤ 4294967295) : Go.bits .xor .u32 4294967295 x = 4294967295 - x := by
  have := u32_xor_nat 4294967295 x.toNat (by decide) (by omega)
  rw [show ((4294967295 : Nat) : Int) = 4294967295 from rfl, Int.toNat_of_nonneg h0] at this
  rw [this, show (4294967295 : Nat) = 2 ^ 32 - 1 from rfl, nat_xor_ones 32 x.toNat (by omega)]
  omega
theorem xor_i64_comm (x y : Int) : Go.bits .xor .i64 x y = Go.bits .xor .i64 y x := by
  unfold Go.bits
  simp only [BitVec.xor_comm]
theorem xor_i64_zero {x : Int} (h0 : 0 ≤ x) (h1 : x ≤ 9223372036854775807) : Go.bits .xor .i64 x 0 = x := by
  have hx : BitVec.ofInt 64 x ^^^ BitVec.ofInt 64 0 = BitVec.ofInt 64 x := by
    rw [show BitVec.ofInt 64 0 = 0#64 from rfl, BitVec.xor_zero]
  show IntKind.i64.wrap ((BitVec.ofInt 64 x ^^^ BitVec.ofInt 64 0).toNat : Int) = x
  rw [hx, BitVec.toNat_ofInt]
  have : (x % (2 ^ 64 : Nat)).toNat = x.toNat := by omega
  rw [this]
  simp [IntKind.wrap, IntKind.signed, IntKind.bits]
  omega
theorem xor_i64_ones {x : Int} (h0 : 0 ≤ x) (h1 : x ≤ 9223372036854775807) : Go.bits .xor .i64 x (-1) = -1 - x := by
  rw [xor_i64_comm]
  have := i64_not x.toNat (by omega)
  rw [Int.toNat_of_nonneg h0] at this
  exact this
theorem and1_64 {x : Int} (h0 : 0 ≤ x) (h1 : x ≤ 18446744073709551615) : Go.bits .and .u64 x 1 = x % 2 := by
  have := u64_and_nat x.toNat 1 (by omega) (by decide)
  rw [show ((1 : Nat) : Int) = 1 from rfl, Int.toNat_of_nonneg h0] at this
  rw [this, Nat.and_one_is_mod]
  omega
theorem and1_32 {x : Int} (h0 : 0 ≤ x) (h1 : x ≤ 4294967295) : Go.bits .and .u32 x 1 = x % 2 := by
  have := u32_and_nat x.toNat 1 (by omega) (by decide)
  rw [show ((1 : Nat) : Int) = 1 from rfl, Int.toNat_of_nonneg h0] at this
  rw [this, Nat.and_one_is_mod]
  omega
theorem or_byte {a : Nat} {b : Int} (w : Nat) (hb0 : 0 ≤ b) (hb : b ≤ 255) (ha : a < 2 ^ w) (hs : a + b.toNat * 2 ^ w < 4294967296) : Go.bits .or .u32 (a : Int) ((b.toNat * 2 ^ w : Nat) : Int) = ((a + b.toNat * 2 ^ w : Nat) : Int) := by
  rw [u32_or_nat _ _ (by omega) (by omega)]
  have := Nat.shiftLeft_add_eq_or_of_lt ha b.toNat
  rw [Nat.shiftLeft_eq] at this
  rw [Nat.or_comm, ← this]
  congr 1
  omega
/-- Four bytes as a number. -/
theorem le4 {a b c d : Int} (a0 : 0 ≤ a) (a1 : a ≤ 255) (b0 : 0 ≤ b) (b1 : b ≤ 255) (c0 : 0 ≤ c) (c1 : c ≤ 255) (d0 : 0 ≤ d) (d1 : d ≤ 255) :
    Go.bits .or .u32 (Go.bits .or .u32 (Go.bits .or .u32 (a % 4294967296) (((b % 4294967296) * 256) % 4294967296)) (((c % 4294967296) * 65536) % 4294967296)) (((d % 4294967296) * 16777216) % 4294967296) = a + 256 * b + 65536 * c + 16777216 * d := by
  rw [show a % 4294967296 = ((a.toNat : Nat) : Int) from by omega, show ((b % 4294967296) * 256) % 4294967296 = ((b.toNat * 2 ^ 8 : Nat) : Int) from by omega,
    show ((c % 4294967296) * 65536) % 4294967296 = ((c.toNat * 2 ^ 16 : Nat) : Int) from by omega, show ((d % 4294967296) * 16777216) % 4294967296 = ((d.toNat * 2 ^ 24 : Nat) : Int) from by omega]
  rw [or_byte 8 b0 b1 (by omega) (by omega), or_byte 16 c0 c1 (by omega) (by omega), or_byte 24 d0 d1 (by omega) (by omega)]
  omega
end Go.Proofs.Ytpaiigonagiemaa.Num
