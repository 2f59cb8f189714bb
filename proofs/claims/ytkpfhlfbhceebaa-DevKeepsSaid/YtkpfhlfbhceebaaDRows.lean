/- Rows of bools as a law's arguments; DevTwins and DevKeeps over any arguments. -/
import Derived.Test.YtkpfhlfbhceebaaDTwins
import Derived.Test.YtkpfhlfbhceebaaDKeepsW
namespace Go.Proofs.Ytkpfhlfbhceebaa.PAll
open Go.Proofs.Ytkpfhlfbhceebaa.Help
open Go.RowKit Go.Proofs.YtkpfhlfbhceebaaW.PrintWords Go.Proofs.YtkpfhlfbhceebaaW.PrintLast Go.Proofs.YtkpfhlfbhceebaaW.PrintMore
set_option linter.unusedVariables false
theorem bools_C {w : World} {x : Addr} {len cap : Nat} {B : Nat → Bool} (hl : len ≤ cap) (hm : cap ≤ maxLen) (hc : ∀ i, i < cap → w.cell? (x.add i) = some (.bool (B i))) :
    Kd.C Kd.bool w (some x) ((List.range len).map B).length ((List.range len).map B) := by
  have hlen : ((List.range len).map B).length = len := by simp
  refine ⟨rfl, by rw [hlen]; unfold maxLen at hm; omega, fun _ => ⟨x, rfl, fun j p hj => ⟨[.bool p], rfl, rfl, fun i u hi => ?_⟩⟩⟩
  obtain ⟨rfl, rfl⟩ : i = 0 ∧ u = .bool p := by
    cases i with
    | zero => simpa using hi.symm
    | succ i => simp at hi
  have hjl := (List.getElem?_eq_some_iff.1 hj).1
  rw [hlen] at hjl
  have hp : B j = p := by simpa [hjl] using hj
  show w.cell? (x.add (j * 1 + 0)) = _
  rw [Nat.mul_one, Nat.add_zero, hc j (by omega), hp]
theorem bools_row {w : World} {a : Option Addr} {len cap : Nat} {B : Nat → Bool} (h : (a = none ∧ len = 0 ∧ cap = 0) ∨ ∃ x, a = some x ∧ len ≤ cap ∧ cap ≤ maxLen ∧ ∀ i, i < cap → w.cell? (x.add i) = some (.bool (B i))) :
    ∃ ks : List Bool, len = ks.length ∧ Kd.C Kd.bool w a ks.length ks := by
  rcases h with ⟨rfl, rfl, rfl⟩ | ⟨x, rfl, hl, hm, hc⟩
  · exact ⟨[], rfl, rfl, by decide, fun hn => absurd hn (by decide)⟩
  · exact ⟨(List.range len).map B, by simp, bools_C hl hm hc⟩
theorem u8_range {l : List Int} (h : ∀ x ∈ l, (Lit.int .u8 x).wf = true) : ∀ x ∈ l, 0 ≤ x ∧ x ≤ 255 := fun x hx => Go.bounds_u8 (h x hx)
theorem norialaw12_DevTwins.walk (a0 : Option Addr) (len0 cap0 : Nat) (z0 : List Int) (a1 : Option Addr) (len1 cap1 : Nat) (z1 : List Int) (a2 : Option Addr) (len2 cap2 : Nat) (z2 : Nat → Bool) (w : World)
    (w0 : (a0 = none ∧ len0 = 0 ∧ cap0 = 0 ∧ z0 = []) ∨ ∃ x, a0 = some x ∧ len0 ≤ cap0 ∧ cap0 ≤ maxLen ∧ z0.length = cap0 ∧ (∀ i, i < z0.length → w.cell? (x.add i) = some (.int .u8 (z0.getD i 0))) ∧ ∀ n ∈ z0, (Lit.int .u8 n).wf = true) (y0 : len0 * 1 ≤ 140737488351232)
    (w1 : (a1 = none ∧ len1 = 0 ∧ cap1 = 0 ∧ z1 = []) ∨ ∃ x, a1 = some x ∧ len1 ≤ cap1 ∧ cap1 ≤ maxLen ∧ z1.length = cap1 ∧ (∀ i, i < z1.length → w.cell? (x.add i) = some (.int .u8 (z1.getD i 0))) ∧ ∀ n ∈ z1, (Lit.int .u8 n).wf = true) (y1 : len1 * 1 ≤ 140737488351232)
    (w2 : (a2 = none ∧ len2 = 0 ∧ cap2 = 0) ∨ ∃ x, a2 = some x ∧ len2 ≤ cap2 ∧ cap2 ≤ maxLen ∧ ∀ i, i < cap2 → w.cell? (x.add i) = some (.bool (z2 i))) :
    Calls Try.prog 6 #[.slice a0 len0 cap0, .slice a1 len1 cap1, .slice a2 len2 cap2] w fun e w' => e = .returned (.bool true) ∧ Below w.heap.size w w' := by
  obtain ⟨l0, rfl, hr0, hm0, hw0, hc0⟩ := ReadsInt.ofRowC w0
  obtain ⟨l1, rfl, hr1, hm1, hw1, hc1⟩ := ReadsInt.ofRowC w1
  obtain ⟨ks, rfl, hr2⟩ := bools_row w2
  exact dev_twins a0 cap0 l0 a1 cap1 l1 a2 cap2 ks w (Kd.C_of_reads (d := (0 : Int)) (h1 := fun _ => rfl) hr0) (Kd.C_of_reads (d := (0 : Int)) (h1 := fun _ => rfl) hr1) hr2 (u8_range hw0) (u8_range hw1)
theorem norialaw12_DevKeeps.walk (a0 : Option Addr) (len0 cap0 : Nat) (z0 : List Int) (a1 : Option Addr) (len1 cap1 : Nat) (z1 : Nat → Bool) (a2 : Bool) (w : World)
    (w0 : (a0 = none ∧ len0 = 0 ∧ cap0 = 0 ∧ z0 = []) ∨ ∃ x, a0 = some x ∧ len0 ≤ cap0 ∧ cap0 ≤ maxLen ∧ z0.length = cap0 ∧ (∀ i, i < z0.length → w.cell? (x.add i) = some (.int .u8 (z0.getD i 0))) ∧ ∀ n ∈ z0, (Lit.int .u8 n).wf = true) (y0 : len0 * 1 ≤ 140737488351232)
    (w1 : (a1 = none ∧ len1 = 0 ∧ cap1 = 0) ∨ ∃ x, a1 = some x ∧ len1 ≤ cap1 ∧ cap1 ≤ maxLen ∧ ∀ i, i < cap1 → w.cell? (x.add i) = some (.bool (z1 i))) :
    Calls Try.prog 5 #[.slice a0 len0 cap0, .slice a1 len1 cap1, .bool a2] w fun e w' => e = .returned (.bool true) ∧ Below w.heap.size w w' := by
  obtain ⟨l0, rfl, hr0, hm0, hw0, hc0⟩ := ReadsInt.ofRowC w0
  obtain ⟨ks, rfl, hr1⟩ := bools_row w1
  have h0 := Kd.C_of_reads (d := (0 : Int)) (h1 := fun _ => rfl) hr0
  cases a2 with
  | true => exact dev_keeps_true a0 cap0 l0 a1 cap1 ks w h0 hr1 (u8_range hw0)
  | false => exact dev_keeps_false a0 cap0 l0 a1 cap1 ks w h0 hr1 (u8_range hw0)
end Go.Proofs.Ytkpfhlfbhceebaa.PAll
