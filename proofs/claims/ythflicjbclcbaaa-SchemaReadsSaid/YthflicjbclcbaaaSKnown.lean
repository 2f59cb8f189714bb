import Derived.Test.YthflicjbclcbaaaPAllx10
import Derived.Test.YthflicjbclcbaaaEnc
/- What schema's statements ask first. -/
namespace Go.Proofs.Ythflicjbclcbaaa.Num
open Go Go.RowKit Go.Proofs.Ythflicjbclcbaaa.PAll Go.Proofs.YthflicjbclcbaaaW.PrintWords Go.Proofs.YthflicjbclcbaaaW.PrintLast Go.Proofs.YthflicjbclcbaaaW.PrintMore
theorem schemaKnown : norialaw10_known.f 100 = some true := by decide +kernel
theorem known_k {k : Nat} (h : 100 ≤ k) : norialaw10_known.f k = some true := at_rounds norialaw10_known.mono h schemaKnown
end Go.Proofs.Ythflicjbclcbaaa.Num
