import Derived.Test.YtaflcaillcjmmaaGreatDoorPAllx9
/- What val's statements ask first. -/
namespace Go.Proofs.YtaflcaillcjmmaaGreatDoor.Num
open Go Go.RowKit Go.Proofs.YtaflcaillcjmmaaGreatDoor.PAll Go.Proofs.YtaflcaillcjmmaaGreatDoorW.PrintWords Go.Proofs.YtaflcaillcjmmaaGreatDoorW.PrintLast Go.Proofs.YtaflcaillcjmmaaGreatDoorW.PrintMore
set_option maxRecDepth 100000 in
theorem valKnown : norialaw3_known.f 100 = some true := by decide +kernel
theorem at_rounds' {α : Type} {g : Nat → Option α} {r : α} (hm : ∀ k, LeO (g k) (g (k + 1))) {k n : Nat} (h : n ≤ k) (hn : g n = some r) : g k = some r := by
  induction h with
  | refl => exact hn
  | step _ ih => exact hm _ _ ih
theorem known_k {k : Nat} (h : 100 ≤ k) : norialaw3_known.f k = some true := at_rounds' norialaw3_known.mono h valKnown
end Go.Proofs.YtaflcaillcjmmaaGreatDoor.Num
