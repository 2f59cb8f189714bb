/- Taken one after the other, what is given never overlaps; given back all of it is free as it was; no conditions. -/
import Derived.Test.YtijhfdhcnagkcaaEBase
import Derived.Test.YtijhfdhcnagkcaaPAllx13
set_option linter.unusedSimpArgs false
set_option linter.unusedVariables false
namespace Go.Proofs.Ytijhfdhcnagkcaa.Pure
open Go Go.RowKit Go.Proofs.Ytijhfdhcnagkcaa.PAll Go.Proofs.YtijhfdhcnagkcaaW.PrintWords Go.Proofs.YtijhfdhcnagkcaaW.PrintLast Go.Proofs.YtijhfdhcnagkcaaW.PrintMore Go.Proofs.Ytijhfdhcnagkcaa.Num
/-- What is free when s blocks are given. -/
def rest (s : Nat) : List S23 := if s < 98 then [⟨2 + (s : Int), 98 - (s : Int)⟩] else []
/-- What has been given lies side by side, from 2 on: s blocks. -/
structure Given (had : List S23) (s : Nat) : Prop where
  le : s ≤ 98
  each : ∀ e ∈ had, 1 ≤ e.f1 ∧ 2 ≤ e.f0 ∧ e.f0 + e.f1 ≤ 2 + (s : Int)
  all : ∀ q : Int, 2 ≤ q → q < 2 + (s : Int) → ∃ e ∈ had, e.f0 ≤ q ∧ q < e.f0 + e.f1
theorem scan_rest (T : Int → Bool) (s : Nat) (h1 : ∀ q : Int, 2 ≤ q → q < 2 + (s : Int) → T q = true) (h2 : ∀ q : Int, 2 + (s : Int) ≤ q → T q = false) : ∀ n, scanF T n = if s < n then [⟨2 + (s : Int), (n : Int) - (s : Int)⟩] else [] := by
  have hz : ∀ n, n ≤ s → scanF T n = [] := by
    intro n
    induction n with
    | zero => intro _; rfl
    | succ n ih =>
      intro hn
      rw [scanF, h1 (2 + (n : Int)) (by omega) (by omega), if_pos rfl]
      exact ih (by omega)
  intro n
  by_cases c : s < n
  · rw [if_pos c]
    have := scan_last (T := T) (j := s) (n := n - s) (by omega) (fun i _ => h2 _ (by omega)) (fun e he => by rw [hz s (Nat.le_refl _)] at he; cases he)
    rw [show s + (n - s) = n from by omega, hz s (Nat.le_refl _), List.nil_append] at this
    rw [this]
    congr 2
    omega
  · rw [if_neg c]
    exact hz n (by omega)
theorem free_given {had : List S23} {s : Nat} (h : Given had s) (hL : had.length ≤ 1000) : ext_Free.f 100 had = some (rest s) := by
  have hm : mn 100 1024 = 100 := by unfold mn; rfl
  have hle := h.le
  rw [free_eq hL, hm]
  have hck : ∀ e ∈ had, ext_Check.f e.f0 e.f1 100 = some 0 := fun e he => by
    have := h.each e he
    exact check_ok this.1 this.2.1 (by rw [hm]; omega)
  have := scan_rest (takenB 100 had) s (fun q q1 q2 => by
    obtain ⟨e, he, q3, q4⟩ := h.all q q1 q2
    exact taken_of he (hck e he) q3 q4) (fun q q1 => by
    cases ht : takenB 100 had q with
    | false => rfl
    | true =>
      unfold takenB at ht
      rw [List.any_eq_true] at ht
      obtain ⟨e, he, hh⟩ := ht
      have h1 := hasB_iff.mp hh
      have := h.each e he
      omega) (100 - 2 : Int).toNat
  rw [this]
  rfl
theorem take_rest {s : Nat} {n : Nat} (hs : s ≤ 98) (hn : 1 ≤ n) : ext_Take.f (rest s) n = if s + n ≤ 98 then some (2 + (s : Int), (n : Int), rest (s + n), 0) else some (0, 0, [], 9) := by
  unfold ext_Take.f rest
  by_cases c : s < 98
  · rw [if_pos c, if_pos (by simp), if_neg (by omega)]
    by_cases c2 : s + n ≤ 98
    · have hd : decide ((98 : Int) - (s : Int) ≥ (n : Int)) = true := by rw [decide_eq_true_iff]; omega
      rw [if_pos c2, show List.findIdx? (fun x : S23 => decide (x.f1 ≥ (n : Int))) [⟨2 + (s : Int), 98 - (s : Int)⟩] = some 0 from by simp [List.findIdx?_cons, hd]]
      simp only []
      have hr : rd_T23 [⟨2 + (s : Int), 98 - (s : Int)⟩] ((0 : Nat) : Int) = ⟨2 + (s : Int), 98 - (s : Int)⟩ := rfl
      rw [hr]
      dsimp only
      rw [wr (by omega) (by omega), wr (by omega) (by omega)]
      simp only [List.set_cons_zero, List.filter_cons, List.filter_nil]
      by_cases c3 : s + n < 98
      · rw [if_pos c3, if_pos (by simp; omega)]
        congr 5
        · simp; omega
      · rw [if_neg c3, if_neg (by simp; omega)]
    · have hd : decide ((98 : Int) - (s : Int) ≥ (n : Int)) = false := by rw [decide_eq_false_iff_not]; omega
      rw [if_neg c2, show List.findIdx? (fun x : S23 => decide (x.f1 ≥ (n : Int))) [⟨2 + (s : Int), 98 - (s : Int)⟩] = none from by simp [List.findIdx?_cons, hd]]
  · rw [if_neg c, if_pos (by simp), if_neg (by omega), if_neg (by omega)]
    rfl
theorem gives_l2 {f : List S23} (hL : f.length ≤ 1000) : ∀ (d i k : Nat), i + d = f.length → d < k → norialaw14_ExtGives.l2 k f f i = some true := by
  intro d
  induction d with
  | zero =>
    intro i k hi hk
    obtain ⟨k, rfl⟩ : ∃ m, k = m + 1 := ⟨k - 1, by omega⟩
    simp only [norialaw14_ExtGives.l2]
    rw [if_neg (by omega)]
  | succ d ih =>
    intro i k hi hk
    obtain ⟨k, rfl⟩ : ∃ m, k = m + 1 := ⟨k - 1, by omega⟩
    simp only [norialaw14_ExtGives.l2]
    rw [if_pos (by omega), if_pos (by omega), if_pos (by omega), if_neg (by simp), wr (by omega) (by omega)]
    exact ih (i + 1) k (by omega) (by omega)
theorem gives_l1 {x0 : List Int} {had lf : List S23} {s n i : Nat} (h : Given had s) (hL : had.length ≤ 1000) (hn : 1 ≤ n) (hsn : s + n ≤ 98) (hi : i ≤ 1000) : ∀ (d j k : Nat), j + d = had.length → d < k →
    norialaw14_ExtGives.l1 k x0 had s i n lf j (2 + (s : Int)) n = norialaw14_ExtGives.l0 (k - (d + 1)) x0 lf (had ++ [⟨2 + (s : Int), (n : Int)⟩]) ((s + n : Nat) : Int) ((i + 1 : Nat) : Int) := by
  intro d
  induction d with
  | zero =>
    intro j k hj hk
    obtain ⟨k, rfl⟩ : ∃ m, k = m + 1 := ⟨k - 1, by omega⟩
    simp only [norialaw14_ExtGives.l1]
    rw [if_neg (by omega), if_pos (by omega), wr (by omega) (by omega), wr (by omega) (by omega)]
    rfl
  | succ d ih =>
    intro j k hj hk
    obtain ⟨k, rfl⟩ : ∃ m, k = m + 1 := ⟨k - 1, by omega⟩
    have he := h.each _ (rd23_mem (l := had) (i := j) (by omega))
    have hno : ovl (rd_T23 had (j : Int)) ⟨2 + (s : Int), (n : Int)⟩ = false := by
      unfold ovl
      rw [decide_eq_false_iff_not]
      dsimp only
      omega
    have ho := ovl_eq (a := rd_T23 had (j : Int)) (b := ⟨2 + (s : Int), (n : Int)⟩) ⟨by omega, by omega, by omega, by omega⟩ ⟨by dsimp only; omega, by dsimp only; omega, by dsimp only; omega, by dsimp only; omega⟩
    dsimp only at ho
    simp only [norialaw14_ExtGives.l1]
    rw [if_pos (by omega), if_pos (by omega), ho, Option.bind_some, hno, if_neg (by simp), wr (by omega) (by omega), show k + 1 - (d + 1 + 1) = k - (d + 1) from by omega, ← ih (j + 1) k (by omega) (by omega)]
    rfl
set_option maxRecDepth 100000 in
theorem gives_l0 {x0 : List Int} (hx : isB x0) (h40 : x0.length ≤ 40) : ∀ (d i k s : Nat) (had : List S23), i + d = x0.length → d * 1010 + 2000 < k → had.length ≤ i → Given had s →
    norialaw14_ExtGives.l0 k x0 (rest s) had s i = some true := by
  intro d
  induction d with
  | zero =>
    intro i k s had hi hk hh hg
    obtain ⟨k, rfl⟩ : ∃ m, k = m + 1 := ⟨k - 1, by omega⟩
    simp only [norialaw14_ExtGives.l0]
    rw [if_neg (by omega), free_given hg (by omega), Option.bind_some, if_pos rfl]
    have hl : (rest s).length ≤ 1 := by unfold rest; split <;> simp
    exact gives_l2 (by omega) (rest s).length 0 k (by omega) (by omega)
  | succ d ih =>
    intro i k s had hi hk hh hg
    obtain ⟨k, rfl⟩ : ∃ m, k = m + 1 := ⟨k - 1, by omega⟩
    have hle := hg.le
    have hv : 0 ≤ rd x0 (i : Int) ∧ rd x0 (i : Int) ≤ 255 := by
      unfold rd
      rw [Int.toNat_natCast, List.getD_eq_getElem?_getD, List.getElem?_eq_getElem (by omega)]
      exact hx _ (List.getElem_mem _)
    obtain ⟨a, ha⟩ := Int.eq_ofNat_of_zero_le hv.1
    simp only [norialaw14_ExtGives.l0]
    rw [if_pos (by omega), if_pos (by omega), ha, show Int.tmod (a : Int) 12 = ((a % 12 : Nat) : Int) from rfl, wr (x := ((a % 12 : Nat) : Int)) (by omega) (by omega), wr (x := 1 + ((a % 12 : Nat) : Int)) (by omega) (by omega), show (1 : Int) + ((a % 12 : Nat) : Int) = ((1 + a % 12 : Nat) : Int) from by omega]
    rw [take_rest hle (by omega)]
    by_cases c : s + (1 + a % 12) ≤ 98
    · rw [if_pos c, Option.bind_some, if_pos rfl]
      have h1 := gives_l1 (x0 := x0) (lf := rest (s + (1 + a % 12))) (n := 1 + a % 12) (i := i) hg (by omega) (by omega) c (by omega) had.length 0 k (by omega) (by omega)
      rw [show ((0 : Nat) : Int) = 0 from rfl] at h1
      dsimp only
      rw [h1]
      refine ih (i + 1) (k - (had.length + 1)) (s + (1 + a % 12)) (had ++ [⟨2 + (s : Int), ((1 + a % 12 : Nat) : Int)⟩]) (by omega) (by omega) (by rw [List.length_append]; simp only [List.length_cons, List.length_nil]; omega) ⟨c, ?_, ?_⟩
      · intro e he
        rcases List.mem_append.mp he with h2 | h2
        · have := hg.each e h2; omega
        · obtain rfl := List.mem_singleton.mp h2
          dsimp only
          omega
      · intro q q1 q2
        rcases lt_ge_ q (2 + (s : Int)) with h2 | h2
        · obtain ⟨e, he, h3⟩ := hg.all q q1 h2
          exact ⟨e, List.mem_append_left _ he, h3⟩
        · exact ⟨_, List.mem_append_right _ (List.mem_singleton.mpr rfl), by dsimp only; omega, by dsimp only; omega⟩
    · rw [if_neg c, Option.bind_some, if_neg (by decide), if_pos (by simp), wr (by omega) (by omega), decide_eq_true (by omega)]
theorem ExtGives : norialaw14_ExtGives.Pure := by
  intro x0 hL1 hL2 hwf
  have hx := isB_of_wf hwf
  obtain ⟨k, hk⟩ : ∃ k, 100000 ≤ k := ⟨100000, Nat.le_refl _⟩
  refine ⟨k, ?_⟩
  unfold norialaw14_ExtGives.f
  rw [extKnown, Option.bind_some, if_pos rfl]
  by_cases hc : (x0.length : Int) > 40
  · rw [if_pos hc]
  · have hg : Given [] 0 := ⟨by omega, fun e he => (List.not_mem_nil he).elim, fun q q1 q2 => by omega⟩
    rw [if_neg hc, free_given hg (by simp), Option.bind_some]
    exact gives_l0 hx (by omega) x0.length 0 k 0 [] (by omega) (by omega) (by simp) hg
end Go.Proofs.Ytijhfdhcnagkcaa.Pure
