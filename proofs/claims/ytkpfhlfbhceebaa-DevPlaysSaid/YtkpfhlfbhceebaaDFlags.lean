/- Rows of bytes and of bools that were there ahead of all devices: what is read of them later. -/
import Derived.Test.YtkpfhlfbhceebaaDSys
import Derived.OpenShut
namespace Go.Proofs.Ytkpfhlfbhceebaa.PAll
open Go.Proofs.Ytkpfhlfbhceebaa.Help
open Go.RowKit Go.Proofs.YtkpfhlfbhceebaaW.PrintWords Go.Proofs.YtkpfhlfbhceebaaW.PrintLast Go.Proofs.YtkpfhlfbhceebaaW.PrintMore
set_option linter.unusedVariables false
set_option linter.unusedSimpArgs false
theorem at_byte {w : World} {A : Option Addr} {l : List Int} (h : Kd.C (Kd.int .u8) w A l.length l) {j : Nat} (hj : j < l.length) : ∃ ad, A = some ad ∧ w.cell? (ad.add j) = some (.int .u8 (l[j]'hj)) := by
  obtain ⟨ad, e, hc⟩ := reads_cells h (by omega)
  exact ⟨ad, e, hc j _ (by simp [List.getElem?_eq_getElem hj])⟩
theorem C_lt {w : World} {A : Option Addr} {l : List Int} (h : Kd.C (Kd.int .u8) w A l.length l) : ∀ a, A = some a → 0 < l.length → a.block < w.heap.size := fun a ha h0 => by
  obtain ⟨ad, e, hc⟩ := at_byte h h0
  rw [e] at ha
  obtain rfl := Option.some.inj ha
  exact World.block_lt_of_cell? w (ad.add 0) hc
theorem C_lt_bool {w : World} {A : Option Addr} {l : List Bool} (h : Kd.C Kd.bool w A l.length l) : ∀ a, A = some a → 0 < l.length → a.block < w.heap.size := fun a ha h0 => by
  obtain ⟨ad, e, hc⟩ := at_flag h h0
  rw [e] at ha
  obtain rfl := Option.some.inj ha
  exact World.block_lt_of_cell? w (ad.add 0) hc
/-- A byte of a row that lay ahead stays. -/
theorem at_byte_later {w : World} {A : Option Addr} {l : List Int} (h : Kd.C (Kd.int .u8) w A l.length l) {j : Nat} (hj : j < l.length) :
    ∃ ad, A = some ad ∧ ∀ w', Below w.heap.size w w' → w'.cell? (ad.add j) = some (.int .u8 (l[j]'hj)) := by
  obtain ⟨ad, e, _⟩ := at_byte h hj
  refine ⟨ad, e, fun w' hB => ?_⟩
  obtain ⟨ad', e', hc⟩ := at_byte (C_same h (fun a ha => hB.block _ (C_lt h a ha (by omega)))) hj
  rw [e] at e'
  obtain rfl := Option.some.inj e'
  exact hc
theorem at_flag_later {w : World} {A : Option Addr} {l : List Bool} (h : Kd.C Kd.bool w A l.length l) {j : Nat} (hj : j < l.length) :
    ∃ ad, A = some ad ∧ ∀ w', Below w.heap.size w w' → w'.cell? (ad.add j) = some (.bool (l.getD j false)) := by
  obtain ⟨ad, e, _⟩ := at_flag h hj
  refine ⟨ad, e, fun w' hB => ?_⟩
  obtain ⟨ad', e', hc⟩ := at_flag (C_same_bool h (fun a ha => hB.block _ (C_lt_bool h a ha (by omega)))) hj
  rw [e] at e'
  obtain rfl := Option.some.inj e'
  exact hc
theorem C_later_bool {w w' : World} {A : Option Addr} {l : List Bool} (h : Kd.C Kd.bool w A l.length l) (hB : Below w.heap.size w w') : Kd.C Kd.bool w' A l.length l := by
  by_cases h0 : 0 < l.length
  · exact C_same_bool h (fun a ha => hB.block _ (C_lt_bool h a ha h0))
  · exact ⟨h.1, h.2.1, fun hn => absurd hn (by omega)⟩
end Go.Proofs.Ytkpfhlfbhceebaa.PAll
