/- The program's devices: what waits, backward (a range over a function). -/
import Derived.RangeFuncNested
import Derived.RangeFuncBound
import Derived.RangeFuncCalls
import Derived.RangeFuncLeaves
import Derived.Shelf.Abstract
import Derived.Shelf.RegionOpen
import Derived.WalkKit
import Derived.OwnWalkIn
import Derived.TacticsInMore
import Derived.LoopNIn
import Derived.LoopIn
import Derived.Test.YtkpfhlfbhceebaaDProg1
namespace Go.Proofs.Ytkpfhlfbhceebaa.PAll
open Go.Proofs.Ytkpfhlfbhceebaa.Help
open Go.RowKit Go.Proofs.YtkpfhlfbhceebaaW.PrintWords Go.Proofs.YtkpfhlfbhceebaaW.PrintLast Go.Proofs.YtkpfhlfbhceebaaW.PrintMore
open Go.Shelf
attribute [local go_sem] Oper.semAt_some
set_option linter.unusedVariables false
set_option linter.unusedSimpArgs false
/-- The last k of nn, the last one first. -/
def down (nn k : Nat) : List Nat := (List.range k).map (fun t => nn - 1 - t)
theorem down_succ (nn k : Nat) : down nn (k + 1) = down nn k ++ [nn - 1 - k] := by simp [down, List.range_succ]
theorem down_length (nn k : Nat) : (down nn k).length = k := by simp [down]
def encB (fat : Nat → Int) (fA : Nat → Option Addr) (fc : Nat → Nat) (j : Nat) : Array Value := #[.int .i64 (j : Int), .agg #[.int .i64 (fat j), .slice (fA j) 64 (fc j)]]
set_option maxRecDepth 100000 in
set_option maxHeartbeats 4000000 in
theorem back_in (F : Fence) (n : Nat) (hf : F.fn 33) (hro : F.round = none) (hn : 1 ≤ n) (l Bs n₀ g nn c1 : Nat) (A1 : Option Addr) (fat : Nat → Int) (fA : Nat → Option Addr) (fc : Nat → Nat) (hnn : nn < 4294967296)
    (hA : 0 < nn → A1 = some ⟨g, 0, none⟩ ∧ g < n₀) (hBn : Bs < n₀) (J Jx : List Nat → World → Prop)
    (hY : ∀ pre x W, J pre W → pre.length < nn → YieldAt F (n - 1) Try.prog l (encB fat fA fc x) W fun e W' =>
      (e = .returned (.bool true) ∧ J (pre ++ [x]) W' ∧ Below n₀ W W') ∨ (e = .returned (.bool false) ∧ Jx (pre ++ [x]) W'))
    (W : World) (hBs : W.cell? ⟨Bs, 0, none⟩ = some (.slice A1 nn c1)) (hc : ∀ j, j < nn → W.cell? ⟨g, j * 2, none⟩ = some (.int .i64 (fat j)) ∧ W.cell? ⟨g, j * 2 + 1, none⟩ = some (.slice (fA j) 64 (fc j))) (h0 : J [] W) :
    CallsIn F n Try.prog 33 #[.func (.yield l) #[] #[], .pointer (some ⟨Bs, 0, none⟩)] W fun e W' => (∃ v, e = .returned v) ∧
      ((∃ ys, ys = down nn nn ∧ J ys W') ∨ (∃ pre, (∃ k, k ≤ nn ∧ pre = down nn k) ∧ Jx pre W')) := by
  refine callsIn_of_wp Try.func33 rfl hf ?_ hro
  simp only [Try.ntmps33, List.size_toArray, List.length_cons, List.length_nil, Nat.reduceAdd, Nat.reduceSub, Array.replicate_succ, Array.replicate_zero, List.push_toArray, List.append_toArray, List.nil_append, List.cons_append]
  gi_wp2
  gi_loopw [3] (fun i wr => ∃ k : Nat, k ≤ nn ∧ i = .int .i64 ((nn : Int) - 1 - k) ∧ J (down nn k) wr ∧ Below n₀ W wr)
    (fun i _ => (intOf i + 1).toNat)
  case atStart => exact ⟨0, Nat.zero_le _, by simp, h0, Below.refl _ _⟩
  case round =>
    obtain ⟨k, hk, rfl, hJs, hnx⟩ := hrel
    have hb := (hnx.cell (p := ⟨Bs, 0, none⟩) hBn).trans hBs
    by_cases hlt : k < nn
    · obtain ⟨j, hj⟩ : ∃ j : Nat, (nn : Int) - 1 - k = (j : Int) := ⟨nn - 1 - k, by omega⟩
      have hjn : j < nn := by omega
      have hjk : Aside0 (j = nn - 1 - k) := ⟨by omega⟩
      obtain ⟨rfl, hg⟩ := hA (by omega)
      obtain ⟨c0, c1'⟩ := hc j hjn
      replace c0 := (hnx.cell (p := ⟨g, j * 2, none⟩) hg).trans c0
      replace c1' := (hnx.cell (p := ⟨g, j * 2 + 1, none⟩) hg).trans c1'
      obtain ⟨fn, tmps, assign, body, hy, hR⟩ := hY _ j wr hJs (by rw [down_length]; exact hlt)
      dsimp only [encB] at hy
      rw [hj]
      have HJ := Aside0.mk hj
      clear hj
      gi_wp2
      refine hR.mono ?_
      rintro e W3 (⟨rfl, hJ3, hk3⟩ | ⟨rfl, hJx3⟩)
      · gi_wp2
        go_roundw
        case rel => exact ⟨k + 1, by omega, by have := HJ.out; push_cast; first | (congr 1; omega) | (simp; omega), by rw [down_succ, ← hjk.out]; exact hJ3, hnx.trans hk3⟩
        case measure => simp [intOf]
      · gi_wp2
        refine bodyPost_ret (results_none rfl _ _ _) rfl ?_
        exact ⟨⟨_, rfl⟩, .inr ⟨_, ⟨k + 1, by omega, by rw [down_succ, ← hjk.out]⟩, hJx3⟩⟩
    · obtain rfl : k = nn := by omega
      gi_wp2
      go_end0
      exact ⟨⟨_, rfl⟩, .inl ⟨_, rfl, hJs⟩⟩
theorem back_mk {w : World} {A : Option Addr} {l c : Nat} : Calls Try.prog 31 #[.slice A l c] w fun e w' => e = .returned (.func (.func 33) #[] #[.pointer (some ⟨w.heap.size, 0, none⟩)]) ∧ w.alloc (.cells #[.slice A l c] 60) = w' := by
  go_enter Try.func31, Try.ntmps31
  go_wp2
  go_ret
  exact ⟨rfl, rfl⟩
theorem back_stops {n : Nat} (hn : 1 ≤ n) (Bs n₀ g nn c1 : Nat) (A1 : Option Addr) (fat : Nat → Int) (fA : Nat → Option Addr) (fc : Nat → Nat) (hnn : nn < 4294967296)
    (hA : 0 < nn → A1 = some ⟨g, 0, none⟩ ∧ g < n₀) (hBn : Bs < n₀) (w : World) (hw : n₀ ≤ w.heap.size) (hBs : w.cell? ⟨Bs, 0, none⟩ = some (.slice A1 nn c1)) (hc : ∀ j, j < nn → w.cell? ⟨g, j * 2, none⟩ = some (.int .i64 (fat j)) ∧ w.cell? ⟨g, j * 2 + 1, none⟩ = some (.slice (fA j) 64 (fc j))) :
    SeqStopsK Fence.wide n Try.prog 33 #[.pointer (some ⟨Bs, 0, none⟩)] (encB fat fA fc) (Below n₀) (fun ys => ys = down nn nn) (fun pre => ∃ k, k ≤ nn ∧ pre = down nn k) nn w := fun l J Jx W hW _ _ hY h0 =>
  back_in Fence.wide n trivial rfl hn l Bs n₀ g nn c1 A1 fat fA fc hnn hA hBn J Jx hY W ((hW.cell (p := ⟨Bs, 0, none⟩) (by show Bs < _; omega)).trans hBs)
    (fun j hj => by
      obtain ⟨h1, h2⟩ := hc j hj
      have := (hA (by omega)).2
      exact ⟨(hW.cell (p := ⟨g, j * 2, none⟩) (by show g < _; omega)).trans h1, (hW.cell (p := ⟨g, j * 2 + 1, none⟩) (by show g < _; omega)).trans h2⟩) h0
end Go.Proofs.Ytkpfhlfbhceebaa.PAll
