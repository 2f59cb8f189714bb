import Derived.Test.YtfiihimbkjcflaaPAllx
import Derived.Test.YtfiihimbkjcflaaEnc
namespace Go.Proofs.Ytfiihimbkjcflaa.Num
open Go Go.RowKit Go.Proofs.Ytfiihimbkjcflaa.PAll Go.Proofs.YtfiihimbkjcflaaW.PrintWords
theorem known_true : norialaw1_known.f 100 = some true := by decide +kernel
theorem known_k {k : Nat} (h : 100 ≤ k) : norialaw1_known.f k = some true := at_rounds norialaw1_known.mono h known_true
end Go.Proofs.Ytfiihimbkjcflaa.Num
