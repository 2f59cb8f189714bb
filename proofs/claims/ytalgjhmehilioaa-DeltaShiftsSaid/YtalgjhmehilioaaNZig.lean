import Derived.Test.YtalgjhmehilioaaNBits
import Derived.Test.YtalgjhmehilioaaPAllx
/- Numbers below 0, told by ones that are not. -/
set_option linter.unusedSimpArgs false
set_option linter.unusedVariables false
namespace Go.Proofs.Ytalgjhmehilioaa.Num
open Go Go.RowKit Go.Proofs.Ytalgjhmehilioaa.PAll Go.Proofs.YtalgjhmehilioaaW.PrintWords Go.Proofs.YtalgjhmehilioaaW.PrintLast Go.Proofs.YtalgjhmehilioaaW.PrintMore
def zig (a : Int) : Int := if 0 ≤ a then 2 * a else -2 * a - 1
def zag (u : Int) : Int := if u % 2 = 0 then u / 2 else -1 - u / 2
theorem zig_bd {a : Int} (h0 : -9223372036854775808 ≤ a) (h1 : a ≤ 9223372036854775807) : 0 ≤ zig a ∧ zig a ≤ 18446744073709551615 := by unfold zig; split <;> omega
theorem zag_bd {u : Int} (h0 : 0 ≤ u) (h1 : u ≤ 18446744073709551615) : -9223372036854775808 ≤ zag u ∧ zag u ≤ 9223372036854775807 := by unfold zag; split <;> omega
theorem zag_zig (a : Int) : zag (zig a) = a := by unfold zag zig; split <;> split <;> omega
theorem zig_zag (u : Int) (h : 0 ≤ u) : zig (zag u) = u := by unfold zag zig; split <;> split <;> omega
theorem wu_gen (x : Int) : IntKind.u64.wrap x = x % 18446744073709551616 := by simp [IntKind.wrap, IntKind.signed, IntKind.bits]
theorem zig_eq {a : Int} (h0 : -9223372036854775808 ≤ a) (h1 : a ≤ 9223372036854775807) : num_Zig.f a = some (zig a) := by
  unfold num_Zig.f zig
  rw [wu_gen, wu_gen, wu_gen]
  by_cases c : 0 ≤ a
  · rw [if_pos c, show a / 9223372036854775808 % 18446744073709551616 = 0 from by omega, show a % 18446744073709551616 * 2 % 18446744073709551616 = 2 * a from by omega, xor64_zero (by omega) (by omega)]
  · rw [if_neg c, show a / 9223372036854775808 % 18446744073709551616 = 18446744073709551615 from by omega, xor64_ones (by omega) (by omega)]
    congr 1
    omega
theorem zag_eq {u : Int} (h0 : 0 ≤ u) (h1 : u ≤ 18446744073709551615) : num_Zag.f u = some (zag u) := by
  unfold num_Zag.f zag
  rw [and1_64 h0 h1, wr (x := u / 2) (by omega) (by omega), wr (x := u % 2) (by omega) (by omega)]
  by_cases c : u % 2 = 0
  · rw [if_pos c, c, show wrap64 (-0) = 0 from wr (by omega) (by omega), xor_i64_zero (by omega) (by omega)]
  · rw [if_neg c, show u % 2 = 1 from by omega, show wrap64 (-1) = -1 from wr (by omega) (by omega), xor_i64_ones (by omega) (by omega)]
end Go.Proofs.Ytalgjhmehilioaa.Num
