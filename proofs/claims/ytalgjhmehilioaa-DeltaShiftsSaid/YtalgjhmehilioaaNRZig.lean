import Derived.Test.YtalgjhmehilioaaNZig
set_option linter.unusedSimpArgs false
set_option linter.unusedVariables false
namespace Go.Proofs.Ytalgjhmehilioaa.Num
open Go Go.RowKit Go.Proofs.Ytalgjhmehilioaa.PAll Go.Proofs.YtalgjhmehilioaaW.PrintWords Go.Proofs.YtalgjhmehilioaaW.PrintLast Go.Proofs.YtalgjhmehilioaaW.PrintMore
theorem rzig_eq {a : Int} (h0 : -9223372036854775808 ≤ a) (h1 : a ≤ 9223372036854775807) : noriaref11_Zig.f a = some (zig a) := by
  unfold noriaref11_Zig.f zig
  rw [wu_gen, wu_gen]
  by_cases c : 0 ≤ a
  · rw [if_pos c, if_neg (by omega), show a % 18446744073709551616 * 2 % 18446744073709551616 = 2 * a from by omega]
  · rw [if_neg c, if_pos (by omega), not64 (by omega) (by omega)]
    congr 1
    omega
theorem rzag_eq {u : Int} (h0 : 0 ≤ u) (h1 : u ≤ 18446744073709551615) : noriaref11_Zag.f u = some (zag u) := by
  unfold noriaref11_Zag.f zag
  rw [and1_64 h0 h1]
  by_cases c : u % 2 = 0
  · rw [if_pos c, if_neg (by omega), wr (x := u / 2) (by omega) (by omega)]
  · rw [if_neg c, if_pos (by omega), not64 (by omega) (by omega)]
    congr 1
    unfold wrap64
    omega
end Go.Proofs.Ytalgjhmehilioaa.Num
