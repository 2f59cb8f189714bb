/- Runs laid by hand, of numbers that are unlike side by side, are told just so; as many runs as were laid; no conditions. -/
import Derived.Test.YtokekjbodkjjpaaRRun
set_option linter.unusedSimpArgs false
set_option linter.unusedVariables false
namespace Go.Proofs.Ytokekjbodkjjpaa.Pure
open Go Go.RowKit Go.Proofs.Ytokekjbodkjjpaa.PAll Go.Proofs.YtokekjbodkjjpaaW.PrintWords Go.Proofs.YtokekjbodkjjpaaW.PrintLast Go.Proofs.YtokekjbodkjjpaaW.PrintMore Go.Proofs.Ytokekjbodkjjpaa.Num
theorem rd_wf8 {l : List Int} (h : isB l) {i : Nat} (hi : i < l.length) : 0 ≤ rd l (i : Int) ∧ rd l (i : Int) ≤ 255 := by
  rw [rd_at hi]; exact h _ (List.getElem_mem hi)
theorem rd_V {l : List Int} (h : isV l) {i : Nat} (hi : i < l.length) : 0 ≤ rd l (i : Int) ∧ rd l (i : Int) ≤ 18446744073709551615 := by
  rw [rd_at hi]; exact h _ (List.getElem_mem hi)
theorem laid_l1 {x0 x1 x6 : List Int} {c i m : Nat} {x5 : List Int} (hv : isV x1) (hi : i < x1.length) (hm : m ≤ 20) (hm1 : 1 ≤ m) (h5 : x5.length ≤ 1000) (h6 : x6.length ≤ 100000) (hi2 : i ≤ 100) (hc : c ≤ 1000) : ∀ (d j k : Nat), j + d = m → d + 100 < k →
    norialaw5_RleRuns.l1 k x0 x1 (x5 ++ List.replicate j (rd x1 (i : Int))) x6 c i m j = norialaw5_RleRuns.l0 (k - (d + 1)) x0 x1 (x5 ++ List.replicate m (rd x1 (i : Int))) (x6 ++ (enc m ++ enc (rd x1 (i : Int)).toNat)) ((c + 1 : Nat) : Int) ((i + 1 : Nat) : Int) := by
  intro d
  induction d with
  | zero =>
    intro j k hj hk
    obtain ⟨k, rfl⟩ : ∃ m, k = m + 1 := ⟨k - 1, by omega⟩
    obtain rfl : j = m := by omega
    have hvv := rd_V hv hi
    have e1 := enc_len10 (u := j) (by omega)
    simp only [norialaw5_RleRuns.l1]
    rw [if_neg (by omega), wu (by omega) (by omega), put_eq k (by omega) (by omega) (by omega) (by omega), Option.bind_some, if_pos (by omega), if_pos (by omega), Int.toNat_natCast, put_eq k hvv.1 hvv.2 (by rw [List.length_append]; omega) (by omega), Option.bind_some, wr (x := (c : Int) + 1) (by omega) (by omega), wr (x := (i : Int) + 1) (by omega) (by omega), List.append_assoc]
    rfl
  | succ d ih =>
    intro j k hj hk
    obtain ⟨k, rfl⟩ : ∃ m, k = m + 1 := ⟨k - 1, by omega⟩
    simp only [norialaw5_RleRuns.l1]
    rw [if_pos (by omega), if_pos (by omega), if_pos (by omega), if_pos (by rw [List.length_append, List.length_replicate]; omega), wr (by omega) (by omega), List.append_assoc, ← List.replicate_succ']
    rw [show k + 1 - (d + 1 + 1) = k - (d + 1) from by omega, ← ih (j + 1) k (by omega) (by omega)]
    rfl
theorem laid_l0 {x0 x1 : List Int} (hb : isB x0) (hv : isV x1) (h40 : x0.length ≤ 40) (hle : x0.length ≤ x1.length) : ∀ (d i k : Nat) (rs : List (Nat × Int)), i + d = x0.length → good rs → (expand rs).length ≤ 20 * i → rs.length ≤ i → 30 * d + 5000 < k →
    norialaw5_RleRuns.l0 k x0 x1 (expand rs) (encR rs) rs.length i = some true := by
  intro d
  induction d with
  | zero =>
    intro i k rs hi hg hL hR hk
    obtain ⟨k, rfl⟩ : ∃ m, k = m + 1 := ⟨k - 1, by omega⟩
    simp only [norialaw5_RleRuns.l0]
    rw [if_neg (by omega), runs_eq hg (by omega) (by omega), Option.bind_some, if_pos rfl, rput_runs hg (by omega) (by omega), Option.bind_some]
    simp
  | succ d ih =>
    intro i k rs hi hg hL hR hk
    obtain ⟨k, rfl⟩ : ∃ m, k = m + 2 := ⟨k - 2, by omega⟩
    have hm := rd_wf8 hb (i := i) (by omega)
    have hvv := rd_V hv (i := i) (by omega)
    have hj : ∀ bb : Bool, bb = decide ((expand rs).getLast? = some (rd x1 (i : Int))) → norialaw5_RleRuns.j2 (k + 1) x0 x1 (expand rs) (encR rs) rs.length i (wrap64 (1 + (wrap64 (Int.tmod (rd x0 (i : Int)) 20)))) bb = some true := by
      intro bb hbb
      subst hbb
      obtain ⟨a, ha⟩ := Int.eq_ofNat_of_zero_le hm.1
      rw [ha, show Int.tmod (a : Int) 20 = ((a % 20 : Nat) : Int) from rfl, wr (x := ((a % 20 : Nat) : Int)) (by omega) (by omega), wr (by omega) (by omega), show (1 : Int) + ((a % 20 : Nat) : Int) = ((1 + a % 20 : Nat) : Int) from by omega]
      simp only [norialaw5_RleRuns.j2]
      by_cases c : (expand rs).getLast? = some (rd x1 (i : Int))
      · rw [if_pos (decide_eq_true c), wr (by omega) (by omega)]
        exact ih (i + 1) k rs (by omega) hg (by omega) (by omega) (by omega)
      · rw [if_neg (by simpa using c)]
        have hel := encR_len rs hg (by omega)
        have h1 := laid_l1 (x0 := x0) (x1 := x1) (x6 := encR rs) (c := rs.length) (i := i) (m := 1 + a % 20) (x5 := expand rs) hv (by omega) (by omega) (by omega) (by omega) (by omega) (by omega) (by omega) (1 + a % 20) 0 k (by omega) (by omega)
        rw [List.replicate_zero, List.append_nil] at h1
        rw [show ((0 : Nat) : Int) = 0 from rfl] at h1
        rw [h1]
        have hg2 : good (rs ++ [(1 + a % 20, rd x1 (i : Int))]) := good_append rs _ hg ⟨by omega, hvv, by simp [expand], trivial⟩ (by
          intro u hu hq
          simp only [expand, List.append_nil] at hq
          have hq2 := head_rep (n := 1 + a % 20) (by omega) (rd x1 (i : Int)) []
          rw [List.append_nil] at hq2
          rw [hq2] at hq
          obtain rfl := Option.some.inj hq
          exact c hu)
        have := ih (i + 1) (k - (1 + a % 20 + 1)) (rs ++ [(1 + a % 20, rd x1 (i : Int))]) (by omega) hg2 (by rw [expand_append, List.length_append]; simp only [expand, List.append_nil, List.length_replicate]; omega) (by rw [List.length_append]; simp only [List.length_cons, List.length_nil]; omega) (by omega)
        rw [expand_append, encR_append, List.length_append] at this
        simp only [expand, encR, List.append_nil, List.length_cons, List.length_nil, Nat.zero_add] at this
        exact this
    simp only [norialaw5_RleRuns.l0]
    rw [if_pos (by omega), if_pos (by omega)]
    by_cases c2 : 0 < (expand rs).length
    · rw [if_pos (by omega), wr (x := ((expand rs).length : Int) - 1) (by omega) (by omega), if_pos (by omega), if_pos (by omega), if_pos (by omega), show ((expand rs).length : Int) - 1 = (((expand rs).length - 1 : Nat) : Int) from by omega, last_rd c2]
      exact hj _ rfl
    · rw [if_neg (by omega)]
      refine hj false ?_
      have : expand rs = [] := List.length_eq_zero_iff.mp (by omega)
      rw [this]
      simp
theorem RleRuns : norialaw5_RleRuns.Pure := by
  intro x0 x1 hL1 hL2 hwb hL3 hL4 hwv
  have hb := isB_of_wf hwb
  have hv := isV_of_wf hwv
  obtain ⟨k, hk⟩ : ∃ k, 10000 ≤ k := ⟨10000, Nat.le_refl _⟩
  refine ⟨k + 1, ?_⟩
  have ht : norialaw5_RleRuns.j0 (k + 1) x0 x1 true = some true := by
    simp only [norialaw5_RleRuns.j0]
    rw [if_pos trivial]
  unfold norialaw5_RleRuns.f
  rw [known_k (by omega), Option.bind_some, if_pos rfl]
  by_cases h0 : (x0.length : Int) > 40
  · rw [if_pos h0]; exact ht
  · rw [if_neg h0]
    by_cases hc : (x1.length : Int) < (x0.length : Int)
    · rw [decide_eq_true hc]; exact ht
    · rw [decide_eq_false hc]
      simp only [norialaw5_RleRuns.j0]
      rw [if_neg (by simp)]
      exact laid_l0 hb hv (by omega) (by omega) x0.length 0 k [] (by omega) trivial (by simp [expand]) (by simp) (by omega)
end Go.Proofs.Ytokekjbodkjjpaa.Pure
