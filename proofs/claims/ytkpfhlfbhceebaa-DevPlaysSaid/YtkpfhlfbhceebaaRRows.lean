/- A row of calls as a law's argument. -/
import Derived.Test.YtkpfhlfbhceebaaRPlays
import Derived.Deep.Slices
import Derived.Deep.Grids
import Derived.ChangeSlices
namespace Go.Proofs.Ytkpfhlfbhceebaa.PAll
open Go.Proofs.Ytkpfhlfbhceebaa.Help
open Go.RowKit Go.Proofs.YtkpfhlfbhceebaaW.PrintWords Go.Proofs.YtkpfhlfbhceebaaW.PrintLast Go.Proofs.YtkpfhlfbhceebaaW.PrintMore
open Go.ChangeShapes Go.WideShapes
set_option linter.unusedVariables false
theorem bools_row' {w : World} {a : Addr} {len cap : Nat} {B : Nat → Bool} (hl : len ≤ cap) (hm : cap ≤ maxLen) (hc : ∀ i, i < cap → w.cell? (a.add i) = some (.bool (B i))) :
    ∃ ks : List Bool, len = ks.length ∧ Kd.C Kd.bool w (some a) ks.length ks := by
  refine ⟨(List.range len).map B, by simp, ?_⟩
  have hlen : ((List.range len).map B).length = len := by simp
  refine ⟨rfl, by rw [hlen]; unfold maxLen at hm; omega, fun _ => ⟨a, rfl, fun j p hj => ⟨[.bool p], rfl, rfl, fun i u hi => ?_⟩⟩⟩
  obtain ⟨rfl, rfl⟩ : i = 0 ∧ u = .bool p := by
    cases i with
    | zero => simpa using hi.symm
    | succ i => simp at hi
  have hjl := (List.getElem?_eq_some_iff.1 hj).1
  rw [hlen] at hjl
  have hp : B j = p := by simpa [hjl] using hj
  show w.cell? (a.add (j * 1 + 0)) = _
  rw [Nat.mul_one, Nat.add_zero, hc j (by omega), hp]
theorem cellsAct : Try.prog.cellsOf 34 = 4 := by kernel_rfl
theorem act_open {H : Type} {enc : TypeId × Value → H} {w : World} {base n : Nat} {held : Bool} {a : Addr} {i : Nat} {cs : List Value} {x : DataW H × List MemPlace}
    (hc : w.cells? base (a.add (i * Try.prog.cellsOf 34)) (Try.prog.cellsOf 34) = some cs) (ht : DataW.trod enc Try.prog w base (fun _ => true) held n 34 cs = some x) :
    ∃ op I Ad dc data Ak kc keep, ActAt w a i op I Ad dc data Ak kc keep := by
  rw [cellsAct] at hc
  obtain ⟨_, hlen, hcell⟩ := World.cells?_some hc
  obtain ⟨xs, k, hk, hxy, _, hxl, hf⟩ := DataW.trod_struct Try.underlying34 ht
  have c3 : Try.prog.cellsOf 3 = 1 := by kernel_rfl
  have c31 : Try.prog.cellsOf 31 = 1 := by kernel_rfl
  have c32 : Try.prog.cellsOf 32 = 1 := by kernel_rfl
  match xs, hxl, cs, hlen with
  | [y0, y1, y2, y3], _, [v0, v1, v2, v3], _ =>
    have g0 := hf 0 _ rfl
    have g1 := hf 1 _ rfl
    have g2 := hf 2 _ rfl
    have g3 := hf 3 _ rfl
    simp [c3, c31, c32] at g0 g1 g2 g3
    have e0 := hcell 0 (by omega)
    have e1 := hcell 1 (by omega)
    have e2 := hcell 2 (by omega)
    have e3 := hcell 3 (by omega)
    rw [add_add'] at e0 e1 e2 e3
    obtain ⟨op, h0, _, _⟩ := DataW.trod_int Try.underlying3 g0
    obtain ⟨I, h1, _, _⟩ := DataW.trod_int Try.underlying3 g1
    obtain rfl : v0 = .int .i64 op := by simpa using h0
    obtain rfl : v1 = .int .i64 I := by simpa using h1
    have d2 : ∃ Ad dc data, v2 = .slice Ad data.length dc ∧ Kd.C (Kd.int .u8) w Ad data.length data ∧ data.length ≤ dc := by
      rcases open_ints Try.underlying31 Try.underlying5 (by kernel_rfl) g2 with ⟨hcs, _⟩ | ⟨x, l, c, zs, hcs, _, hl, hm, hz, _, hcl, hwz⟩
      · exact ⟨none, 0, [], by simpa using hcs, ⟨rfl, by decide, fun hn => absurd hn (by decide)⟩, Nat.le_refl _⟩
      · obtain ⟨ls, e, hr, hm', hw', hc'⟩ := ReadsInt.ofRowC (k := .u8) (w := w) (a := some x) (len := l) (cap := c) (zs := zs) (.inr ⟨x, rfl, hl, hm, by simpa using hz, hcl, hwz⟩)
        refine ⟨some x, c, ls, ?_, Kd.C_of_reads (d := (0 : Int)) (h1 := fun _ => rfl) hr, by omega⟩
        rw [← e]; simpa using hcs
    have d3 : ∃ Ak kc keep, v3 = .slice Ak (List.length keep) kc ∧ Kd.C Kd.bool w Ak keep.length keep := by
      rcases Go.Deep.open_bools Try.underlying32 Try.underlying4 (by kernel_rfl) g3 with ⟨hcs, _⟩ | ⟨x, l, c, B, hcs, _, hl, hm, _, hcl⟩
      · exact ⟨none, 0, [], by simpa using hcs, ⟨rfl, by decide, fun hn => absurd hn (by decide)⟩⟩
      · obtain ⟨ks, e, hr⟩ := bools_row' hl hm hcl
        refine ⟨some x, c, ks, ?_, hr⟩
        rw [← e]; simpa using hcs
    obtain ⟨Ad, dc, data, rfl, q1, q2⟩ := d2
    obtain ⟨Ak, kc, keep, rfl, q3⟩ := d3
    exact ⟨op, I, Ad, dc, data, Ak, kc, keep, by simpa using e0, by simpa using e1, by simpa using e2, by simpa using e3, q1, q2, q3⟩
theorem acts_open {H : Type} {enc : TypeId × Value → H} {w : World} {fuel : Nat} {held : Bool} {A : Option Addr} {len cap : Nat} {x : DataW H × List MemPlace}
    (h : DataW.trod enc Try.prog w 0 (fun _ => true) held fuel 22 [.slice A len cap] = some x) : ActRow w A len := by
  rcases Go.Deep.open_slice Try.underlying22 h with ⟨hcs, _⟩ | ⟨a, l, c, m, n, D, Pl, hcs, _, hl, hm, hmm, _, hall⟩
  · simp at hcs
    obtain ⟨rfl, rfl, rfl⟩ := hcs
    exact ⟨by omega, fun i hi => absurd hi (by omega)⟩
  · simp at hcs
    obtain ⟨rfl, rfl, rfl⟩ := hcs
    simp only [if_true] at hmm
    refine ⟨by unfold maxLen at hm; omega, fun i hi => ?_⟩
    obtain ⟨cs, hc, ht⟩ := hall i (by omega)
    obtain ⟨op, I, Ad, dc, data, Ak, kc, keep, hA⟩ := act_open hc ht
    exact ⟨a, op, I, Ad, dc, data, Ak, kc, keep, rfl, hA⟩
end Go.Proofs.Ytkpfhlfbhceebaa.PAll
