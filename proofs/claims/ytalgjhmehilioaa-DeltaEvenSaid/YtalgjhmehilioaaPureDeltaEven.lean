/- Numbers that step alike take as many bits each as the greater of the first and the step wants; no conditions. -/
import Derived.Test.YtalgjhmehilioaaDStep
set_option linter.unusedSimpArgs false
set_option linter.unusedVariables false
namespace Go.Proofs.Ytalgjhmehilioaa.Pure
open Go Go.RowKit Go.Proofs.Ytalgjhmehilioaa.PAll Go.Proofs.YtalgjhmehilioaaW.PrintWords Go.Proofs.YtalgjhmehilioaaW.PrintLast Go.Proofs.YtalgjhmehilioaaW.PrintMore Go.Proofs.Ytalgjhmehilioaa.Num
def evens (v s : Int) (n : Nat) : List Int := (List.range n).map fun (i : Nat) => v + (i : Int) * s
theorem evens_len (v s : Int) (n : Nat) : (evens v s n).length = n := by simp [evens]
theorem evens_succ (v s : Int) (n : Nat) : evens v s (n + 1) = evens v s n ++ [v + (n : Int) * s] := by simp [evens, List.range_succ]
theorem evens_cons (v s : Int) (n : Nat) : evens v s (n + 1) = v :: evens (v + s) s n := by
  unfold evens
  rw [List.range_succ_eq_map, List.map_cons, List.map_map]
  congr 1
  · simp
  · apply List.map_congr_left
    intro i _
    simp only [Function.comp]
    rw [show ((i + 1 : Nat) : Int) = (i : Int) + 1 from by omega, Int.add_mul]
    omega
theorem step_bd {v s : Int} {i : Nat} (hv : -2147483648 ≤ v ∧ v ≤ 2147483647) (hs : -32768 ≤ s ∧ s ≤ 32767) (hi : i ≤ 100) : -4000000 ≤ (i : Int) * s ∧ (i : Int) * s ≤ 4000000 := by
  have h1 : (i : Int) * s ≤ (i : Int) * 32767 := Int.mul_le_mul_of_nonneg_left hs.2 (by omega)
  have h2 : (i : Int) * -32768 ≤ (i : Int) * s := Int.mul_le_mul_of_nonneg_left hs.1 (by omega)
  omega
theorem evens_I {v s : Int} {n : Nat} (hv : -2147483648 ≤ v ∧ v ≤ 2147483647) (hs : -32768 ≤ s ∧ s ≤ 32767) (hn : n ≤ 60) : isI (evens v s n) := by
  intro x hx
  obtain ⟨i, hi, rfl⟩ := List.mem_map.mp hx
  have := step_bd (i := i) hv hs (by have := List.mem_range.mp hi; omega)
  omega
theorem evens_steps {s : Int} (hs : -32768 ≤ s ∧ s ≤ 32767) : ∀ (n : Nat) (v : Int), stepsFrom v (evens (v + s) s n) = List.replicate n (zig s) := by
  intro n
  induction n with
  | zero => intro v; rfl
  | succ n ih =>
    intro v
    rw [evens_cons, stepsFrom, ih, show v + s - v = s from by omega, wr (by omega) (by omega)]
    rfl
theorem even_rd {v s : Int} {n i : Nat} (hs : -32768 ≤ s ∧ s ≤ 32767) (hi : 1 ≤ i) (hn : i < n) : rd (stepsFrom 0 (evens v s n)) (i : Int) = zig s := by
  obtain ⟨m, rfl⟩ : ∃ m, n = m + 1 := ⟨n - 1, by omega⟩
  obtain ⟨j, rfl⟩ : ∃ j, i = j + 1 := ⟨i - 1, by omega⟩
  rw [evens_cons, stepsFrom, evens_steps hs]
  unfold rd
  rw [Int.toNat_natCast, List.getD_cons_succ, List.getD_eq_getElem?_getD, List.getElem?_replicate, if_pos (by omega)]
  rfl
theorem even_l1 {v s : Int} {n : Nat} {r : List Int} (hv : -2147483648 ≤ v ∧ v ≤ 2147483647) (hs : -32768 ≤ s ∧ s ≤ 32767) (hn : n ≤ 60) (hr : packs (stepsFrom 0 (evens v s n)) (wid (stepsFrom 0 (evens v s n))) r) : ∀ (d i k : Nat), (i + d = n ∨ d = 0 ∧ n ≤ i) → 1 ≤ i → i ≤ 61 → d + 5000001 < k →
    norialaw6_DeltaEven.l1 k (evens v s n) (((wid (stepsFrom 0 (evens v s n)) : Nat) : Int) :: r) (stepsFrom 0 (evens v s n)) i = some true := by
  have hI := evens_I (n := n) hv hs hn
  have hL := evens_len v s n
  have hS : (stepsFrom 0 (evens v s n)).length = n := by rw [steps_len, hL]
  have h64 := wid_le64 (steps_U (evens v s n) 0)
  intro d
  induction d with
  | zero =>
    intro i k hi h1 h2 hk
    obtain ⟨k, rfl⟩ : ∃ m, k = m + 2 := ⟨k - 2, by omega⟩
    show norialaw6_DeltaEven.l1 (k + 1 + 1) _ _ _ _ = _
    simp only [norialaw6_DeltaEven.l1]
    have hmul : n * wid (stepsFrom 0 (evens v s n)) ≤ 60 * 64 := Nat.mul_le_mul hn h64
    have hm : (n : Int) * ((wid (stepsFrom 0 (evens v s n)) : Nat) : Int) = ((n * wid (stepsFrom 0 (evens v s n)) : Nat) : Int) := by simp
    have hrl := hr.1
    rw [hS] at hrl
    have hrd : ∀ (x : Int) (t : List Int), rd (x :: t) 0 = x := fun _ _ => rfl
    have hg := dget_put (k := k) hI (by omega) hr (by omega)
    rw [if_neg (by omega), hg, Option.bind_some, if_pos rfl, ints_self (l := evens v s n) (by omega) (by omega), Option.bind_some, if_pos rfl, if_pos (by simp only [List.length_cons]; omega), hrd, hL]
    rw [wr (x := ((wid (stepsFrom 0 (evens v s n)) : Nat) : Int)) (by omega) (by omega), hm]
    generalize n * wid (stepsFrom 0 (evens v s n)) = q at *
    rw [wr (x := (q : Int)) (by omega) (by omega), wr (x := (q : Int) + 7) (by omega) (by omega), show Int.tdiv ((q : Int) + 7) 8 = (((q + 7) / 8 : Nat) : Int) from rfl, wr (x := (((q + 7) / 8 : Nat) : Int)) (by omega) (by omega), wr (by omega) (by omega), List.length_cons, hrl]
    rw [show (((q + 7) / 8 + 1 : Nat) : Int) = 1 + (((q + 7) / 8 : Nat) : Int) from by omega]
    simp
  | succ d ih =>
    intro i k hi h1 h2 hk
    obtain ⟨k, rfl⟩ : ∃ m, k = m + 1 := ⟨k - 1, by omega⟩
    simp only [norialaw6_DeltaEven.l1]
    have e1 := even_rd (v := v) (n := n) (i := i) hs h1 (by omega)
    have e2 := even_rd (v := v) (n := n) (i := 1) hs (by omega) (by omega)
    rw [show ((1 : Nat) : Int) = 1 from rfl] at e2
    rw [if_pos (by omega), if_pos (by omega), if_pos (by omega), e1, e2, if_pos rfl, wr (by omega) (by omega)]
    exact ih (i + 1) k (by omega) (by omega) (by omega) (by omega)
theorem even_l0 {v s a2 : Int} {n : Nat} (hv : -2147483648 ≤ v ∧ v ≤ 2147483647) (hs : -32768 ≤ s ∧ s ≤ 32767) (hn : n ≤ 60) (ha : wrap64 (Int.tmod a2 60) = (n : Int)) : ∀ (d i k : Nat), i + d = n → d + 5001000 < k →
    norialaw6_DeltaEven.l0 k v s a2 (evens v s i) i = some true := by
  intro d
  induction d with
  | zero =>
    intro i k hi hk
    obtain ⟨k, rfl⟩ : ∃ m, k = m + 2 := ⟨k - 2, by omega⟩
    obtain rfl : i = n := by omega
    have hI := evens_I (n := i) hv hs hn
    have hL := evens_len v s i
    have hS : (stepsFrom 0 (evens v s i)).length = i := by rw [steps_len, hL]
    obtain ⟨r, hr, he⟩ := dput_ok (k := k + 1) hI (by omega) (by omega)
    show norialaw6_DeltaEven.l0 (k + 1 + 1) _ _ _ _ _ = _
    simp only [norialaw6_DeltaEven.l0]
    rw [ha, if_neg (by omega), he, Option.bind_some, dsteps_eq hI (by omega) (by omega), Option.bind_some, if_neg (by simp only [List.length_cons]; omega), hL, hS]
    simp only [norialaw6_DeltaEven.j1]
    rw [if_neg (by simp)]
    exact even_l1 hv hs hn hr (i - 1) 1 k (by omega) (by omega) (by omega) (by omega)
  | succ d ih =>
    intro i k hi hk
    obtain ⟨k, rfl⟩ : ∃ m, k = m + 1 := ⟨k - 1, by omega⟩
    have hb := step_bd (i := i) hv hs (by omega)
    simp only [norialaw6_DeltaEven.l0]
    rw [ha, if_pos (by omega), if_pos (by rw [evens_len]; omega), wr (x := v) (by omega) (by omega), wr (x := s) (by omega) (by omega), wr (x := (i : Int) * s) (by omega) (by omega), wr (x := v + (i : Int) * s) (by omega) (by omega), wr (x := (i : Int) + 1) (by omega) (by omega), ← evens_succ]
    exact ih (i + 1) k (by omega) (by omega)
theorem DeltaEven : norialaw6_DeltaEven.Pure := by
  intro v s a2 hv hs ha
  have hv : -2147483648 ≤ v ∧ v ≤ 2147483647 := by
    simp [Lit.wf, IntKind.min, IntKind.max, IntKind.signed, IntKind.bits] at hv
    omega
  have hs : -32768 ≤ s ∧ s ≤ 32767 := by
    simp [Lit.wf, IntKind.min, IntKind.max, IntKind.signed, IntKind.bits] at hs
    omega
  have ha := wf_u8 ha
  obtain ⟨k, hk⟩ : ∃ k, 6000000 ≤ k := ⟨6000000, Nat.le_refl _⟩
  refine ⟨k, ?_⟩
  unfold norialaw6_DeltaEven.f
  rw [known_k (by omega), Option.bind_some, if_pos rfl]
  obtain ⟨m, rfl⟩ := Int.eq_ofNat_of_zero_le ha.1
  exact even_l0 (n := m % 60) hv hs (by omega) (by rw [show Int.tmod (m : Int) 60 = ((m % 60 : Nat) : Int) from rfl, wr (by omega) (by omega)]) (m % 60) 0 k (by omega) (by omega)
end Go.Proofs.Ytalgjhmehilioaa.Pure
