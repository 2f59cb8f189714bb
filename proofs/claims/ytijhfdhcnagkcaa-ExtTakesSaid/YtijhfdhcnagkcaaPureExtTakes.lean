/- So many blocks of what is free, from the first piece that has them, and what is left; or that none has; no conditions. -/
import Derived.Test.YtijhfdhcnagkcaaERef
import Derived.Test.YtijhfdhcnagkcaaPAllx10
import Derived.Test.YtijhfdhcnagkcaaPAllx11
set_option linter.unusedSimpArgs false
set_option linter.unusedVariables false
namespace Go.Proofs.Ytijhfdhcnagkcaa.Pure
open Go Go.RowKit Go.Proofs.Ytijhfdhcnagkcaa.PAll Go.Proofs.YtijhfdhcnagkcaaW.PrintWords Go.Proofs.YtijhfdhcnagkcaaW.PrintLast Go.Proofs.YtijhfdhcnagkcaaW.PrintMore Go.Proofs.Ytijhfdhcnagkcaa.Num
def leftOf (l : List S23) (i : Nat) (n : Int) : List S23 := (l.set i ⟨(rd_T23 l (i : Int)).f0 + n, (rd_T23 l (i : Int)).f1 - n⟩).filter fun x => !decide (x.f1 < 1)
theorem set_split {l : List S23} {i : Nat} (hi : i < l.length) (x : S23) : l.set i x = l.take i ++ x :: l.drop (i + 1) := by rw [List.set_eq_take_append_cons_drop, if_pos hi]
theorem take_split {l : List S23} {i : Nat} (hi : i < l.length) : l = l.take i ++ rd_T23 l (i : Int) :: l.drop (i + 1) := by
  rw [rdT_elem hi]
  have := List.take_append_drop i l
  rw [List.drop_eq_getElem_cons hi] at this
  exact this.symm
theorem filter_id {l : List S23} (h : ∀ e ∈ l, 1 ≤ e.f1) : l.filter (fun x => !decide (x.f1 < 1)) = l := by
  rw [List.filter_eq_self]
  intro e he
  have := h e he
  simp; omega
theorem leftOf_eq {l : List S23} (h : ∀ e ∈ l, 1 ≤ e.f1) {i : Nat} (hi : i < l.length) (n : Int) : leftOf l i n = l.take i ++ (if (rd_T23 l (i : Int)).f1 - n < 1 then [] else [⟨(rd_T23 l (i : Int)).f0 + n, (rd_T23 l (i : Int)).f1 - n⟩]) ++ l.drop (i + 1) := by
  unfold leftOf
  rw [set_split hi, List.filter_append, List.filter_cons, filter_id (fun e he => h e (List.mem_of_mem_take he)), filter_id (fun e he => h e (List.mem_of_mem_drop he))]
  by_cases c : (rd_T23 l (i : Int)).f1 - n < 1
  · rw [if_pos c]
    simp [c]
  · rw [if_neg c]
    simp [c]
theorem rtake_l1 {l : List S23} (hL : l.length ≤ 1000000) (h : ∀ e ∈ l, small e) {i : Nat} (hi : i < l.length) {n : Int} (hn0 : 1 ≤ n) (hn1 : n ≤ (rd_T23 l (i : Int)).f1) : ∀ (d j k : Nat) (acc : List S23), j + d = l.length → d < k → acc.length ≤ j → acc ++ ((l.set i ⟨(rd_T23 l (i : Int)).f0 + n, (rd_T23 l (i : Int)).f1 - n⟩).drop j).filter (fun x => !decide (x.f1 < 1)) = leftOf l i n →
    noriaref18_Take.l1 k (l.map to28) n i (acc.map to28) j = some ((rd_T23 l (i : Int)).f0, n, (leftOf l i n).map to28, 0) := by
  intro d
  induction d with
  | zero =>
    intro j k acc hj hk ha hE
    obtain ⟨k, rfl⟩ : ∃ m, k = m + 1 := ⟨k - 1, by omega⟩
    rw [List.drop_of_length_le (by rw [List.length_set]; omega), List.filter_nil, List.append_nil] at hE
    simp only [noriaref18_Take.l1]
    rw [if_neg (by rw [List.length_map]; omega), if_pos (by omega), if_pos (by rw [List.length_map]; omega), rd28_map hi, hE]
    rfl
  | succ d ih =>
    intro j k acc hj hk ha hE
    obtain ⟨k, rfl⟩ : ∃ m, k = m + 1 := ⟨k - 1, by omega⟩
    obtain ⟨s1, s2, s3, s4⟩ := h _ (rd23_mem (l := l) (i := j) (by omega))
    have hd : (l.set i ⟨(rd_T23 l (i : Int)).f0 + n, (rd_T23 l (i : Int)).f1 - n⟩).drop j = (if j = i then ⟨(rd_T23 l (i : Int)).f0 + n, (rd_T23 l (i : Int)).f1 - n⟩ else rd_T23 l (j : Int)) :: (l.set i ⟨(rd_T23 l (i : Int)).f0 + n, (rd_T23 l (i : Int)).f1 - n⟩).drop (j + 1) := by
      rw [List.drop_eq_getElem_cons (by rw [List.length_set]; omega)]
      congr 1
      by_cases c : j = i
      · subst c; rw [if_pos rfl, List.getElem_set_self]
      · rw [if_neg c, List.getElem_set_ne (Ne.symm c)]; exact (rdT_elem (by omega)).symm
    rw [hd, List.filter_cons] at hE
    simp only [noriaref18_Take.l1]
    rw [if_pos (by rw [List.length_map]; omega), if_pos (by omega), rd28_map (by omega), wr (x := (j : Int) + 1) (by omega) (by omega), List.length_map]
    have e0 : (to28 (rd_T23 l (j : Int))).f0 = (rd_T23 l (j : Int)).f0 := rfl
    have e1 : (to28 (rd_T23 l (j : Int))).f1 = (rd_T23 l (j : Int)).f1 := rfl
    rw [e0, e1]
    by_cases c : j = i
    · subst c
      rw [if_pos rfl] at hE
      rw [if_pos rfl, wr (x := (rd_T23 l (j : Int)).f1 - n) (by omega) (by omega), wr (x := (rd_T23 l (j : Int)).f0 + n) (by omega) (by omega)]
      by_cases c2 : (rd_T23 l (j : Int)).f1 - n > 0
      · rw [if_pos (by simp; omega)] at hE
        rw [if_pos c2, if_pos (by omega)]
        have := ih (j + 1) k (acc ++ [⟨(rd_T23 l (j : Int)).f0 + n, (rd_T23 l (j : Int)).f1 - n⟩]) (by omega) (by omega) (by rw [List.length_append]; simp only [List.length_cons, List.length_nil]; omega) (by rw [List.append_assoc]; exact hE)
        rw [List.map_append] at this
        exact this
      · rw [if_neg (by simp; omega)] at hE
        rw [if_neg c2]
        exact ih (j + 1) k acc (by omega) (by omega) (by omega) hE
    · rw [if_neg c, if_pos (by simp; omega)] at hE
      rw [if_neg (by omega), if_pos (by omega), if_pos (by omega)]
      have := ih (j + 1) k (acc ++ [rd_T23 l (j : Int)]) (by omega) (by omega) (by rw [List.length_append]; simp only [List.length_cons, List.length_nil]; omega) (by rw [List.append_assoc]; exact hE)
      rw [List.map_append] at this
      exact this
theorem rtake_l0 {l : List S23} (hL : l.length ≤ 1000000) (h : ∀ e ∈ l, small e) {n : Int} (hn0 : 1 ≤ n) : ∀ (d j k : Nat), j + d = l.length → 2 * d + l.length + 5 < k → (∀ i : Nat, i < j → (rd_T23 l (i : Int)).f1 < n) →
    noriaref18_Take.l0 k (l.map to28) n j = match l.findIdx? (fun x => decide (x.f1 ≥ n)) with | none => some (0, 0, [], 9) | some i => some ((rd_T23 l (i : Int)).f0, n, (leftOf l i n).map to28, 0) := by
  intro d
  induction d with
  | zero =>
    intro j k hj hk hno
    obtain ⟨k, rfl⟩ : ∃ m, k = m + 1 := ⟨k - 1, by omega⟩
    have : l.findIdx? (fun x => decide (x.f1 ≥ n)) = none := by
      rw [List.findIdx?_eq_none_iff]
      intro x hx
      obtain ⟨i, hi, rfl⟩ := List.getElem_of_mem hx
      have := hno i (by omega)
      rw [rdT_elem hi] at this
      simpa using this
    rw [this]
    simp only [noriaref18_Take.l0]
    rw [if_neg (by rw [List.length_map]; omega)]
  | succ d ih =>
    intro j k hj hk hno
    obtain ⟨k, rfl⟩ : ∃ m, k = m + 1 := ⟨k - 1, by omega⟩
    simp only [noriaref18_Take.l0]
    rw [if_pos (by rw [List.length_map]; omega), if_pos (by omega), rd28_map (by omega), wr (x := (j : Int) + 1) (by omega) (by omega)]
    have e1 : (to28 (rd_T23 l (j : Int))).f1 = (rd_T23 l (j : Int)).f1 := rfl
    rw [e1]
    by_cases c : (rd_T23 l (j : Int)).f1 < n
    · rw [if_pos c]
      exact ih (j + 1) k (by omega) (by omega) (fun i hi => by
        rcases Nat.lt_or_ge i j with g | g
        · exact hno i g
        · obtain rfl : i = j := by omega
          exact c)
    · rw [if_neg c]
      have : l.findIdx? (fun x => decide (x.f1 ≥ n)) = some j := by
        rw [List.findIdx?_eq_some_iff_getElem]
        refine ⟨by omega, ?_, fun i hi => ?_⟩
        · rw [← rdT_elem (by omega)]; simp; omega
        · have := hno i hi
          rw [rdT_elem (by omega)] at this
          simpa using this
      rw [this]
      exact rtake_l1 hL h (i := j) (by omega) hn0 (by omega) l.length 0 k [] (by omega) (by omega) (by simp) (by rw [List.drop_zero, List.nil_append]; rfl)
def sumN : List S23 → Int
  | [] => 0
  | e :: l => e.f1 + sumN l
theorem sumN_append (a b : List S23) : sumN (a ++ b) = sumN a + sumN b := by
  induction a with
  | nil => simp [sumN]
  | cons e a ih => simp only [List.cons_append, sumN, ih]; omega
theorem sumN_bd (l : List S23) (h : ∀ e ∈ l, small e) : 0 ≤ sumN l ∧ sumN l ≤ 5000 * (l.length : Int) := by
  induction l with
  | nil => simp [sumN]
  | cons e l ih =>
    have := ih (fun x hx => h x (by simp [hx]))
    obtain ⟨s1, s2, _, _⟩ := h e (by simp)
    simp only [sumN, List.length_cons]
    omega
theorem sum_l0 {f : List S23} (hL : f.length ≤ 100000) (h : ∀ e ∈ f, small e) {n x0 x1 : Int} {lf : List S23} : ∀ (d i k : Nat), i + d = f.length → d < k →
    norialaw14_ExtTakes.l0 k n f lf (sumN (f.take i)) i x0 x1 = norialaw14_ExtTakes.l1 (k - (d + 1)) n lf (sumN f) 0 x0 x1 := by
  intro d
  induction d with
  | zero =>
    intro i k hi hk
    obtain ⟨k, rfl⟩ : ∃ m, k = m + 1 := ⟨k - 1, by omega⟩
    simp only [norialaw14_ExtTakes.l0]
    rw [if_neg (by omega), List.take_of_length_le (by omega)]
    rfl
  | succ d ih =>
    intro i k hi hk
    obtain ⟨k, rfl⟩ : ∃ m, k = m + 1 := ⟨k - 1, by omega⟩
    have hb := sumN_bd (f.take i) (fun e he => h e (List.mem_of_mem_take he))
    rw [List.length_take] at hb
    obtain ⟨s1, s2, _, _⟩ := h _ (rd23_mem (l := f) (i := i) (by omega))
    have hih := ih (i + 1) k (by omega) (by omega)
    rw [takeT_succ (by omega), sumN_append] at hih
    simp only [sumN] at hih
    simp only [norialaw14_ExtTakes.l0]
    rw [if_pos (by omega), if_pos (by omega), wr (by omega) (by omega), wr (by omega) (by omega), show k + 1 - (d + 1 + 1) = k - (d + 1) from by omega, ← hih, Int.add_zero]
    rfl
theorem sum_l1 {lf : List S23} (hL : lf.length ≤ 100000) (h : ∀ e ∈ lf, small e) {n S : Int} (hS : S = sumN lf + n) (hn : 0 ≤ n ∧ n ≤ 5000) {e : S23} (he : small e) (hen : e.f1 = n) (hno : ∀ x ∈ lf, ovl x e = false) : ∀ (d i k : Nat), i + d = lf.length → d < k →
    norialaw14_ExtTakes.l1 k n lf (S - sumN (lf.take i)) i e.f0 e.f1 = some true := by
  intro d
  induction d with
  | zero =>
    intro i k hi hk
    obtain ⟨k, rfl⟩ : ∃ m, k = m + 1 := ⟨k - 1, by omega⟩
    simp only [norialaw14_ExtTakes.l1]
    rw [if_neg (by omega), List.take_of_length_le (by omega), if_pos (by omega), hen]
    simp
  | succ d ih =>
    intro i k hi hk
    obtain ⟨k, rfl⟩ : ∃ m, k = m + 1 := ⟨k - 1, by omega⟩
    have hb := sumN_bd (lf.take i) (fun e he => h e (List.mem_of_mem_take he))
    have hb2 := sumN_bd lf h
    rw [List.length_take] at hb
    have hm := rd23_mem (l := lf) (i := i) (by omega)
    obtain ⟨s1, s2, _, _⟩ := h _ hm
    have hih := ih (i + 1) k (by omega) (by omega)
    rw [takeT_succ (by omega), sumN_append] at hih
    simp only [sumN] at hih
    simp only [norialaw14_ExtTakes.l1]
    rw [if_pos (by omega), if_pos (by omega), ovl_eq (h _ hm) he, Option.bind_some, hno _ hm, if_neg (by simp), wr (by omega) (by omega), wr (by omega) (by omega)]
    rw [show S - sumN (lf.take i) - (rd_T23 lf (i : Int)).f1 = S - (sumN (lf.take i) + ((rd_T23 lf (i : Int)).f1 + 0)) from by omega]
    exact hih
theorem ExtTakes : ∀ (b : Int) (l : List S23) (n : Int), (Lit.int .u16 b).wf = true → (Lit.int .i64 n).wf = true → ∃ k, norialaw14_ExtTakes.f k b l n = some true := by
  intro b l n hb hn
  have hb := wf_u16 hb
  have hn := wf_i64 hn
  obtain ⟨m, rfl⟩ := Int.eq_ofNat_of_zero_le hb.1
  refine ⟨3000002, ?_⟩
  unfold norialaw14_ExtTakes.f
  rw [extKnown, Option.bind_some, if_pos rfl]
  by_cases hc : (l.length : Int) > 30
  · rw [if_pos hc]
  · rw [if_neg hc, show Int.tmod (m : Int) 200 = ((m % 200 : Nat) : Int) from rfl, wr (by omega) (by omega), free_eq (by omega), Option.bind_some]
    have hmn : mn ((m % 200 : Nat) : Int) 1024 = ((m % 200 : Nat) : Int) := by unfold mn; rw [if_neg (by omega)]
    have hpc := scan_pieces (takenB ((m % 200 : Nat) : Int) l) ((mn ((m % 200 : Nat) : Int) 1024) - 2).toNat
    have hfl := scanF_len (takenB ((m % 200 : Nat) : Int) l) ((mn ((m % 200 : Nat) : Int) 1024) - 2).toNat
    rw [hmn] at hpc hfl ⊢
    generalize scanF (takenB ((m % 200 : Nat) : Int) l) (((m % 200 : Nat) : Int) - 2).toNat = f at hpc hfl
    have hsm : ∀ e ∈ f, small e := fun e he => by
      have := hpc.each e he
      exact ⟨by omega, by omega, by omega, by omega⟩
    have herr : ∀ (e : Int) (k : Nat), e ≠ 0 → norialaw14_ExtTakes.j0 (k + 1) n f [] e (!true) 0 0 = some true := by
      intro e k he
      simp only [norialaw14_ExtTakes.j0]
      rw [if_neg (by simp), if_neg he]
    have hs0 : norialaw14_Same.f 3000002 [] ([] : List S28) = some true := same_eq (l := []) (by simp) (by simp)
    by_cases c1 : n < 1
    · have h1 : ext_Take.f f n = some (0, 0, [], 1) := by unfold ext_Take.f; rw [if_pos (by omega), if_pos c1]
      have h2 : noriaref18_Take.f 3000002 (f.map to28) n = some (0, 0, [], 1) := by unfold noriaref18_Take.f; rw [if_pos c1]
      rw [h1, Option.bind_some, ofAll_eq (by omega) (by omega), Option.bind_some, h2, Option.bind_some, if_pos rfl, of_eq, Option.bind_some, if_neg (by simp), hs0, Option.bind_some]
      exact herr 1 3000001 (by decide)
    · have h2 : noriaref18_Take.f 3000002 (f.map to28) n = match f.findIdx? (fun x => decide (x.f1 ≥ n)) with | none => some (0, 0, [], 9) | some i => some ((rd_T23 f (i : Int)).f0, n, (leftOf f i n).map to28, 0) := by
        unfold noriaref18_Take.f
        rw [if_neg c1]
        exact rtake_l0 (by omega) hsm (by omega) f.length 0 3000002 (by omega) (by omega) (fun i hi => by omega)
      cases hfi : f.findIdx? (fun x => decide (x.f1 ≥ n)) with
      | none =>
        have h1 : ext_Take.f f n = some (0, 0, [], 9) := by unfold ext_Take.f; rw [if_pos (by omega), if_neg c1, hfi]
        rw [hfi] at h2
        rw [h1, Option.bind_some, ofAll_eq (by omega) (by omega), Option.bind_some, h2, Option.bind_some, if_pos rfl, of_eq, Option.bind_some, if_neg (by simp), hs0, Option.bind_some]
        exact herr 9 3000001 (by decide)
      | some i =>
        rw [hfi] at h2
        rw [List.findIdx?_eq_some_iff_getElem] at hfi
        obtain ⟨hi, hpi, _⟩ := hfi
        rw [← rdT_elem hi, decide_eq_true_iff] at hpi
        have hm := rd23_mem hi
        obtain ⟨s1, s2, s3, s4⟩ := hsm _ hm
        have hlo := leftOf_eq (fun e he => (hsm e he).1) hi n
        have h1 : ext_Take.f f n = some ((rd_T23 f (i : Int)).f0, n, leftOf f i n, 0) := by
          have hfi : f.findIdx? (fun x => decide (x.f1 ≥ n)) = some i := by
            rw [List.findIdx?_eq_some_iff_getElem]
            refine ⟨hi, by rw [← rdT_elem hi]; simpa using hpi, by assumption⟩
          unfold ext_Take.f
          rw [if_pos (by omega), if_neg c1, hfi]
          simp only []
          rw [wr (by omega) (by omega), wr (by omega) (by omega)]
          rfl
        have hsp := take_split hi
        have hap := hpc.apart
        rw [hsp, List.pairwise_append, List.pairwise_cons] at hap
        obtain ⟨_, ⟨hap2, _⟩, hap3⟩ := hap
        have hlsm : ∀ x ∈ leftOf f i n, small x ∧ ovl x ⟨(rd_T23 f (i : Int)).f0, n⟩ = false := by
          intro x hx
          rw [hlo] at hx
          have hov : ∀ x : S23, (x.f0 + x.f1 ≤ (rd_T23 f (i : Int)).f0 ∨ (rd_T23 f (i : Int)).f0 + n ≤ x.f0) → ovl x ⟨(rd_T23 f (i : Int)).f0, n⟩ = false := by
            intro x h
            unfold ovl
            rw [decide_eq_false_iff_not]
            dsimp only
            omega
          rcases List.mem_append.mp hx with hx | hx
          · rcases List.mem_append.mp hx with hx | hx
            · have := hap3 x hx (rd_T23 f (i : Int)) (by simp)
              exact ⟨hsm x (List.mem_of_mem_take hx), hov x (.inl (by omega))⟩
            · split at hx
              · cases hx
              · obtain rfl := List.mem_singleton.mp hx
                exact ⟨⟨by dsimp only; omega, by dsimp only; omega, by dsimp only; omega, by dsimp only; have := hpc.each _ hm; omega⟩, hov _ (.inr (Int.le_refl _))⟩
          · have := hap2 x hx
            exact ⟨hsm x (List.mem_of_mem_drop hx), hov x (.inr (by omega))⟩
        have hsum : sumN f = sumN (leftOf f i n) + n := by
          rw [hlo]
          conv => lhs; rw [hsp]
          rw [sumN_append, sumN_append, sumN_append]
          simp only [sumN]
          split
          · simp only [sumN]; omega
          · simp only [sumN]; omega
        have hll : (leftOf f i n).length ≤ f.length + 1 := by
          rw [hlo, List.length_append, List.length_append, List.length_take, List.length_drop]
          split
          · simp only [List.length_nil]; omega
          · simp only [List.length_cons, List.length_nil]; omega
        rw [h1, Option.bind_some, ofAll_eq (by omega) (by omega), Option.bind_some, h2, Option.bind_some, if_pos rfl, of_eq, Option.bind_some, if_neg (by simp), same_eq (l := leftOf f i n) (by omega) (by omega), Option.bind_some]
        show norialaw14_ExtTakes.j0 (3000001 + 1) _ _ _ _ _ _ _ = _
        simp only [norialaw14_ExtTakes.j0]
        rw [if_neg (by simp), if_pos trivial]
        have a1 := sum_l0 (f := f) (by omega) hsm (n := n) (x0 := (rd_T23 f (i : Int)).f0) (x1 := n) (lf := leftOf f i n) f.length 0 3000001 (by omega) (by omega)
        have a2 := sum_l1 (lf := leftOf f i n) (by omega) (fun x hx => (hlsm x hx).1) (n := n) (S := sumN f) hsum (by omega) (e := ⟨(rd_T23 f (i : Int)).f0, n⟩) ⟨by dsimp only; omega, by dsimp only; omega, s3, s4⟩ rfl (fun x hx => (hlsm x hx).2) (leftOf f i n).length 0 (3000001 - (f.length + 1)) (by omega) (by omega)
        rw [List.take_zero] at a1 a2
        simp only [sumN, Int.sub_zero] at a1 a2
        rw [show ((0 : Nat) : Int) = 0 from rfl] at a1 a2
        rw [a1]
        exact a2
end Go.Proofs.Ytijhfdhcnagkcaa.Pure
