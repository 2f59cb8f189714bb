/- What any rooms leave free of so many blocks is what the document says, in as few pieces as may be; no conditions. -/
import Derived.Test.YtijhfdhcnagkcaaRows
import Derived.Test.YtijhfdhcnagkcaaPureExtFree
import Derived.WalkKit
import Derived.ProofKit
import Derived.OpenShut
import Derived.ShutString
import Derived.ChangeOld
import Derived.Below
import Derived.SizedLaws
import Derived.Deep.SlicePairs
import Derived.Lib.SmallJoins
import Derived.Test.YtijhfdhcnagkcaaWSized
namespace Go.Proofs.Ytijhfdhcnagkcaa.extFree
open Go.ChangeShapes Go.WideShapes Go.ChangeAt Go.RowKit Go.Deep Go.Joins
open Go.Proofs.Ytijhfdhcnagkcaa.PAll Go.Proofs.YtijhfdhcnagkcaaW.PrintWords
set_option linter.unusedVariables false
theorem own : ownKnob Try.prog.godebug = none := by kernel_rfl
theorem laidOut : laidOutB Try.prog = true := by kernel_rfl
/-- A slice of rooms, read. -/
theorem rooms {H : Type} {enc : TypeId × Value → H} {W : World} {base : Nat} {spare : Nat → Bool} {held : Bool} {A : Option Addr} {n c : Nat} {x : DataW H × List MemPlace} {fuel : Nat} (h : DataW.trod enc Try.prog W base spare held fuel 33 [.slice A n c] = some x) (hc : ∀ l : List S23, l.length = n → True) :
    ∃ l : List S23, l.length = n ∧ Kd.C k23 W A l.length l ∧ l.length ≤ c := by
  rcases open_slice_pairs Try.underlying33 Try.underlying23 (by kernel_rfl) rfl rfl (by kernel_rfl) (by kernel_rfl) h with ⟨hcs, _⟩ | ⟨a, len, cap, m, q, V0, V1, D0, D1, P0, P1, hcs, hb, hl, hm, hmm, hx, hall⟩
  · simp only [List.cons.injEq, Value.slice.injEq, and_true] at hcs
    obtain ⟨rfl, rfl, rfl⟩ := hcs
    exact ⟨[], rfl, ⟨rfl, by simp, fun h => absurd h (by simp)⟩, by simp⟩
  · simp only [List.cons.injEq, Value.slice.injEq, and_true] at hcs
    obtain ⟨rfl, rfl, rfl⟩ := hcs
    have hlm : n ≤ m := by rw [hmm]; split <;> omega
    have hmax : n ≤ 9223372036854775807 := by unfold maxLen at hm; omega
    have num : ∀ (t : TypeId) (v : Value) (z : DataW H × List MemPlace) (f : Nat), t = 3 → DataW.trod enc Try.prog W base spare held f t [v] = some z → ∃ y : Int, v = .int .i64 y := by
      intro t v z f ht hz
      subst ht
      obtain ⟨y, hy, _⟩ := DataW.trod_int Try.underlying3 hz
      exact ⟨y, by simpa using hy⟩
    have key : ∀ i, i < n → ∃ y : S23, W.cell? (a.add (i * 2)) = some (.int .i64 y.f0) ∧ W.cell? (a.add (i * 2 + 1)) = some (.int .i64 y.f1) := by
      intro i hi
      obtain ⟨c0, c1, t0, t1⟩ := hall i (by omega)
      obtain ⟨y0, e0⟩ := num _ _ _ _ rfl t0
      obtain ⟨y1, e1⟩ := num _ _ _ _ rfl t1
      exact ⟨⟨y0, y1⟩, by rw [c0, e0], by rw [c1, e1]⟩
    have fam : ∀ j, j ≤ n → ∃ l : List S23, l.length = j ∧ ∀ i y, l[i]? = some y → W.cell? (a.add (i * 2)) = some (.int .i64 y.f0) ∧ W.cell? (a.add (i * 2 + 1)) = some (.int .i64 y.f1) := by
      intro j
      induction j with
      | zero => intro _; exact ⟨[], rfl, fun i y h => by simp at h⟩
      | succ j ih =>
        intro hj
        obtain ⟨l, hll, hal⟩ := ih (by omega)
        obtain ⟨y, hy⟩ := key j (by omega)
        refine ⟨l ++ [y], by rw [List.length_append, hll]; rfl, fun i z hz => ?_⟩
        rcases Nat.lt_or_ge i l.length with g | g
        · rw [List.getElem?_append_left g] at hz
          exact hal i z hz
        · rw [List.getElem?_append_right g] at hz
          have hi0 : i - l.length = 0 := by
            rcases Nat.eq_zero_or_pos (i - l.length) with g2 | g2
            · exact g2
            · rw [List.getElem?_eq_none (by simp; omega)] at hz; cases hz
          rw [hi0] at hz
          obtain rfl : y = z := by simpa using hz
          rw [show i = j from by omega]
          exact hy
    obtain ⟨l, hll, hal⟩ := fam n (Nat.le_refl _)
    refine ⟨l, hll, ⟨rfl, by omega, fun _ => ⟨a, rfl, fun j p hj => ?_⟩⟩, by omega⟩
    obtain ⟨h0, h1⟩ := hal j p hj
    refine ⟨[.int .i64 p.f0, .int .i64 p.f1], rfl, k23_mk _ _, fun i u hu => ?_⟩
    match i, hu with
    | 0, hu => obtain rfl : Value.int .i64 p.f0 = u := by simpa using hu
               exact h0
    | 1, hu => obtain rfl : Value.int .i64 p.f1 = u := by simpa using hu
               exact h1
    | i + 2, hu => simp at hu
set_option maxRecDepth 100000 in
theorem lifted (os : Os) (started : os.Started) (H : Type) (enc : TypeId × Value → H) :
    ReturnsInHanded {} Try.checked os 4 .any (Rows.extFreeSpec.pre6 enc Try.prog Try.f4 Rows.extFreeRow.domain false) (Rows.extFreeSpec.post enc Try.prog Try.f4 false true false false) := by
  refine returnsInHanded_of_change_sized (C := Try.checked) own started (by kernel_rfl) Try.func4
    (ChangeSpec.witness6 (enc := enc) (C := Try.checked) false ⟨#[], #[.int .i64 0, .slice none 0 0], []⟩ 8 (by kernel_rfl) (by kernel_rfl) (by kernel_rfl) (by kernel_rfl)) ?_
  intro W base args ds gs before hval0 hW hcnd hsz0 _
  have hval : ∀ (j : Nat) t v, Try.f4.params[j]? = some t → args[j]? = some v → Value.okWide Try.prog W .any base t v := hval0
  have hW' := hW
  obtain ⟨p, q, hA0, hV, rfl, hfz, hnd⟩ := hW
  have hA : DataW.TrodAll enc Try.prog W 0 (fun _ => true) true Try.f4.params.toList args.toList ds p := hA0
  rw [Try.params4] at hA hval
  obtain ⟨v0, vs0, d0, ds0, p0, q0, hargs, rfl, rfl, h0, r0⟩ := trodAll_cons hA
  obtain ⟨v1, vs1, d1, ds1, p1, q1, rfl, rfl, rfl, h1, r1⟩ := trodAll_cons r0
  obtain ⟨rfl, rfl, rfl⟩ := trodAll_nil r1
  obtain rfl : args = #[v0, v1] := by cases args; simp_all
  obtain ⟨rfl, rfl⟩ := trodVars_none hV
  obtain ⟨a0, rfl, rfl, rfl, w0⟩ := open_int Try.underlying3 (hval 0 3 v0 rfl rfl) h0
  obtain ⟨a1, len1, cap1, rfl⟩ := okWide_slice Try.underlying33 (hval 1 33 v1 rfl rfl)
  have k1 := h1
  have lt1 : ∀ x ∈ p1, x.block < W.heap.size := by obtain ⟨m, hm⟩ := k1; exact DataW.trod_lt m _ _ _ hm
  obtain ⟨l1, hl1, hC1, hc1⟩ := (by obtain ⟨fuel, hf⟩ := h1; exact rooms hf (fun _ _ => trivial) : ∃ l : List S23, l.length = len1 ∧ Kd.C k23 W a1 l.length l ∧ l.length ≤ cap1)
  subst hl1
  clear hA0 hval0
  obtain ⟨k, h⟩ := Pure.ExtFree a0 l1
  refine (norialaw14_ExtFree.calls k a0 _ _ l1 true W hC1 hc1 h).mono fun e W' ⟨he, bel⟩ => ?_
  subst he
  exact ⟨_, rfl, _, _, _, [], _, [], hW', trodAll_mk1 (shut_bool Try.underlying4 _), (trodAll_cons_mk (shut_int Try.underlying3 w0) (trodAll_cons_mk (Below.trod laidOut (by kernel_rfl) (of_decide_eq_true (by kernel_rfl)) k1 bel lt1) trodAll_mk0)), rfl, bel.frame _, fun h => by cases h⟩
theorem over : Rows.extFreeRow.holds Try.pinned (OpenSpec.ofChange Rows.extFreeSpec) :=
  OpenClaim.holds_of_wide 4 Try.f4 rfl rfl rfl rfl rfl rfl rfl ⟨rfl, rfl, rfl, rfl, rfl⟩ rfl rfl rfl rfl rfl (by kernel_rfl) Try.func4 (by kernel_rfl)
    (of_decide_eq_true (by kernel_rfl)) (by unfold Func.isWrapper; first | (rw [if_pos (by decide +kernel)]; kernel_rfl) | (rw [if_neg (by decide +kernel)]; exact ⟨rfl, rfl⟩))
    (fun os started H enc _ => lifted os started H enc)
theorem proved : Rows.ExtFreeSaid := over
#print axioms proved
end Go.Proofs.Ytijhfdhcnagkcaa.extFree
namespace Go.Proofs.Ytijhfdhcnagkcaa
/-- The row, under a short name, for the claim. -/
theorem extFree_holds : Rows.ExtFreeSaid := extFree.proved
end Go.Proofs.Ytijhfdhcnagkcaa
