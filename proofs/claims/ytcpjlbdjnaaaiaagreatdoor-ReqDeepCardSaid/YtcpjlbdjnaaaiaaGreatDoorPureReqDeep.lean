/- A predicate as deep as may be is told and read; one deeper is refused by both; no conditions. -/
import Derived.Test.YtcpjlbdjnaaaiaaGreatDoorPAllx24
set_option linter.unusedSimpArgs false
set_option linter.unusedVariables false
namespace Go.Proofs.YtcpjlbdjnaaaiaaGreatDoor.Pure
open Go Go.RowKit Go.Proofs.YtcpjlbdjnaaaiaaGreatDoor.PAll Go.Proofs.YtcpjlbdjnaaaiaaGreatDoor.Help Go.Proofs.YtcpjlbdjnaaaiaaGreatDoorW.PrintWords Go.Proofs.YtcpjlbdjnaaaiaaGreatDoorW.PrintLast Go.Proofs.YtcpjlbdjnaaaiaaGreatDoorW.PrintMore
def deepAt (b : Bool) (j : Nat) : Option Bool := norialaw25_ReqDeep.l0 80 b (j : Int) (⟨#[97, 108, 108]⟩ : ByteArray) 0 12 0 0 0 (⟨#[]⟩ : ByteArray) ((0, 0) : Nat × Nat) ((0, 0) : Nat × Nat) ((0, 0) : Nat × Nat) ([] : List (S30))
set_option maxRecDepth 100000
theorem d0t : deepAt true 0 = some true := by kernel_rfl
theorem d0f : deepAt false 0 = some true := by kernel_rfl
theorem d1t : deepAt true 1 = some true := by kernel_rfl
theorem d1f : deepAt false 1 = some true := by kernel_rfl
theorem d2t : deepAt true 2 = some true := by kernel_rfl
theorem d2f : deepAt false 2 = some true := by kernel_rfl
theorem d3t : deepAt true 3 = some true := by kernel_rfl
theorem d3f : deepAt false 3 = some true := by kernel_rfl
theorem d4t : deepAt true 4 = some true := by kernel_rfl
theorem d4f : deepAt false 4 = some true := by kernel_rfl
theorem d5t : deepAt true 5 = some true := by kernel_rfl
theorem d5f : deepAt false 5 = some true := by kernel_rfl
theorem d6t : deepAt true 6 = some true := by kernel_rfl
theorem d6f : deepAt false 6 = some true := by kernel_rfl
theorem d7t : deepAt true 7 = some true := by kernel_rfl
theorem d7f : deepAt false 7 = some true := by kernel_rfl
theorem d8t : deepAt true 8 = some true := by kernel_rfl
theorem d8f : deepAt false 8 = some true := by kernel_rfl
theorem d9t : deepAt true 9 = some true := by kernel_rfl
theorem d9f : deepAt false 9 = some true := by kernel_rfl
theorem d10t : deepAt true 10 = some true := by kernel_rfl
theorem d10f : deepAt false 10 = some true := by kernel_rfl
theorem d11t : deepAt true 11 = some true := by kernel_rfl
theorem d11f : deepAt false 11 = some true := by kernel_rfl
theorem deep_of (b : Bool) (j : Nat) (hj : j < 12) : deepAt b j = some true := by
  obtain rfl | rfl | rfl | rfl | rfl | rfl | rfl | rfl | rfl | rfl | rfl | rfl : j = 0 ∨ j = 1 ∨ j = 2 ∨ j = 3 ∨ j = 4 ∨ j = 5 ∨ j = 6 ∨ j = 7 ∨ j = 8 ∨ j = 9 ∨ j = 10 ∨ j = 11 := by omega
  · cases b
    · exact d0f
    · exact d0t
  · cases b
    · exact d1f
    · exact d1t
  · cases b
    · exact d2f
    · exact d2t
  · cases b
    · exact d3f
    · exact d3t
  · cases b
    · exact d4f
    · exact d4t
  · cases b
    · exact d5f
    · exact d5t
  · cases b
    · exact d6f
    · exact d6t
  · cases b
    · exact d7f
    · exact d7t
  · cases b
    · exact d8f
    · exact d8t
  · cases b
    · exact d9f
    · exact d9t
  · cases b
    · exact d10f
    · exact d10t
  · cases b
    · exact d11f
    · exact d11t
theorem ReqDeep : norialaw25_ReqDeep.Pure := by
  intro a0 a1 ha
  have hw : 0 ≤ a0 ∧ a0 ≤ 255 := by
    simp [Lit.wf, IntKind.min, IntKind.max, IntKind.signed, IntKind.bits] at ha
    omega
  obtain ⟨n, rfl⟩ := Int.eq_ofNat_of_zero_le hw.1
  refine ⟨80, ?_⟩
  have e : wrap64 (Int.tmod (n : Int) 12) = ((n % 12 : Nat) : Int) := by
    have h1 : Int.tmod (n : Int) 12 = ((n % 12 : Nat) : Int) := by
      rw [Int.tmod_eq_emod_of_nonneg (by omega)]
      omega
    rw [h1]
    unfold wrap64
    omega
  unfold norialaw25_ReqDeep.f norialaw25_known.f
  rw [Option.bind_some, if_pos rfl, e]
  exact deep_of a1 _ (Nat.mod_lt _ (by decide))
end Go.Proofs.YtcpjlbdjnaaaiaaGreatDoor.Pure
