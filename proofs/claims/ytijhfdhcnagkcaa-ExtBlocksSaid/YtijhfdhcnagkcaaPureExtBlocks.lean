/- Block by block: free is what is on the device, is none of the first two, and in no room that is used; no conditions. -/
import Derived.Test.YtijhfdhcnagkcaaEBase
import Derived.Test.YtijhfdhcnagkcaaPAllx12
set_option linter.unusedSimpArgs false
set_option linter.unusedVariables false
namespace Go.Proofs.Ytijhfdhcnagkcaa.Pure
open Go Go.RowKit Go.Proofs.Ytijhfdhcnagkcaa.PAll Go.Proofs.YtijhfdhcnagkcaaW.PrintWords Go.Proofs.YtijhfdhcnagkcaaW.PrintLast Go.Proofs.YtijhfdhcnagkcaaW.PrintMore Go.Proofs.Ytijhfdhcnagkcaa.Num
def inB (l : List S23) (q : Int) : Bool := l.any fun e => decide (e.f0 ≤ q ∧ q < e.f0 + e.f1)
theorem inB_snoc (l : List S23) (e : S23) (q : Int) : inB (l ++ [e]) q = (inB l q || decide (e.f0 ≤ q ∧ q < e.f0 + e.f1)) := by simp [inB]
/-- Over the pieces. -/
theorem blocks_l1 {n : Int} {l f : List S23} (hf : ∀ e ∈ f, small e) (hfl : f.length ≤ 2000) {q : Nat} (hq : q ≤ 300) : ∀ (d j k : Nat), j + d = f.length → d < k →
    norialaw14_ExtBlocks.l1 k l n f q (inB (f.take j) q) j = (if (q : Int) ≥ 2 then norialaw14_ExtBlocks.j2 (k - (d + 1)) l n f q (inB f q) (decide ((q : Int) < n)) else norialaw14_ExtBlocks.j2 (k - (d + 1)) l n f q (inB f q) false) := by
  intro d
  induction d with
  | zero =>
    intro j k hj hk
    obtain ⟨k, rfl⟩ : ∃ m, k = m + 1 := ⟨k - 1, by omega⟩
    simp only [norialaw14_ExtBlocks.l1]
    rw [if_neg (by omega), List.take_of_length_le (by omega)]
    rfl
  | succ d ih =>
    intro j k hj hk
    obtain ⟨k, rfl⟩ : ∃ m, k = m + 1 := ⟨k - 1, by omega⟩
    have hih := ih (j + 1) k (by omega) (by omega)
    rw [takeT_succ (by omega), inB_snoc, show ((j + 1 : Nat) : Int) = (j : Int) + 1 from by omega] at hih
    obtain ⟨s1, s2, s3, s4⟩ := hf _ (rd23_mem (l := f) (i := j) (by omega))
    simp only [norialaw14_ExtBlocks.l1]
    rw [if_pos (by omega), wr (x := (j : Int) + 1) (by omega) (by omega), show k + 1 - (d + 1 + 1) = k - (d + 1) from by omega, ← hih]
    by_cases c : inB (f.take j) (q : Int) = true
    · rw [c, if_pos rfl, Bool.true_or]
    · have cf : inB (f.take j) (q : Int) = false := by simpa using c
      rw [cf, if_neg (by simp), if_pos (by omega), Bool.false_or]
      by_cases c2 : (q : Int) ≥ (rd_T23 f (j : Int)).f0
      · rw [if_pos c2, wr (by omega) (by omega)]
        congr 1
        rw [Bool.eq_iff_iff, decide_eq_true_iff, decide_eq_true_iff]
        omega
      · rw [if_neg c2, decide_eq_false (by omega)]
/-- Over what is used. -/
theorem blocks_l2 {n : Int} {l f : List S23} (hL : l.length ≤ 1000) {q : Nat} (hq : q ≤ 300) {w fr : Bool} (hfr : fr = (w && !takenB n l q)) : ∀ (d j k : Nat), j + d = l.length → 2 * d + 2 < k →
    norialaw14_ExtBlocks.l2 k l n f q fr (w && !takenB n (l.take j) q) j = norialaw14_ExtBlocks.l0 (k - (2 * d + 2)) l n f ((q + 1 : Nat) : Int) ∨ ∃ r, r ≤ 2 * d + 2 ∧ norialaw14_ExtBlocks.l2 k l n f q fr (w && !takenB n (l.take j) q) j = norialaw14_ExtBlocks.l0 (k - r) l n f ((q + 1 : Nat) : Int) := by
  intro d
  induction d with
  | zero =>
    intro j k hj hk
    obtain ⟨k, rfl⟩ : ∃ m, k = m + 2 := ⟨k - 2, by omega⟩
    refine .inr ⟨2, by omega, ?_⟩
    show norialaw14_ExtBlocks.l2 (k + 1 + 1) _ _ _ _ _ _ _ = _
    simp only [norialaw14_ExtBlocks.l2]
    rw [if_neg (by omega)]
    simp only [norialaw14_ExtBlocks.j4]
    rw [if_neg (by simp), List.take_of_length_le (by omega), ← hfr, if_neg (by simp), wr (by omega) (by omega)]
    rfl
  | succ d ih =>
    intro j k hj hk
    obtain ⟨k, rfl⟩ : ∃ m, k = m + 2 := ⟨k - 2, by omega⟩
    have hsn : takenB n (l.take (j + 1)) q = (takenB n (l.take j) q || hasB n (rd_T23 l (j : Int)) q) := by rw [takeT_succ (by omega), takenB_snoc]
    have hih : ∃ r, r ≤ 2 * d + 2 ∧ norialaw14_ExtBlocks.l2 k l n f q fr (w && !takenB n (l.take (j + 1)) q) ((j : Int) + 1) = norialaw14_ExtBlocks.l0 (k - r) l n f ((q + 1 : Nat) : Int) := by
      rw [show (j : Int) + 1 = ((j + 1 : Nat) : Int) from by omega]
      rcases ih (j + 1) k (by omega) (by omega) with h | h
      · exact ⟨_, Nat.le_refl _, h⟩
      · exact h
    obtain ⟨r, hr, he⟩ := hih
    show (norialaw14_ExtBlocks.l2 (k + 1 + 1) _ _ _ _ _ _ _ = _) ∨ ∃ r, r ≤ _ ∧ norialaw14_ExtBlocks.l2 (k + 1 + 1) _ _ _ _ _ _ _ = _
    refine .inr ?_
    simp only [norialaw14_ExtBlocks.l2]
    rw [if_pos (by omega)]
    simp only [norialaw14_ExtBlocks.j4]
    by_cases c : (w && !takenB n (l.take j) (q : Int)) = true
    · rw [c, if_pos rfl, if_pos (by omega), if_pos (by omega), wr (x := (j : Int) + 1) (by omega) (by omega)]
      have cw : w = true := by revert c; cases w <;> simp
      have ct : takenB n (l.take j) (q : Int) = false := by revert c; rw [cw]; simp
      rw [hsn, cw, ct, Bool.true_and, Bool.false_or] at he
      obtain ⟨v, hv⟩ := check_some (rd_T23 l (j : Int)).f0 (rd_T23 l (j : Int)).f1 n
      rw [hv, Option.bind_some]
      refine ⟨r + 2, by omega, ?_⟩
      rw [show k + 2 - (r + 2) = k - r from by omega, ← he]
      by_cases cv : v = 0
      · subst cv
        obtain ⟨s1, s2, s3, s4⟩ := check_small hv
        dsimp only at s1 s2 s3 s4
        rw [if_pos rfl]
        by_cases c2 : (q : Int) ≥ (rd_T23 l (j : Int)).f0
        · rw [if_pos c2, wr (by omega) (by omega)]
          by_cases c3 : (q : Int) - (rd_T23 l (j : Int)).f0 < (rd_T23 l (j : Int)).f1
          · rw [if_pos c3, hasB_iff.mpr ⟨hv, by omega, by omega⟩]
            rfl
          · have : hasB n (rd_T23 l (j : Int)) q = false := by
              cases hh : hasB n (rd_T23 l (j : Int)) q with
              | false => rfl
              | true => have := hasB_iff.mp hh; omega
            rw [if_neg c3, this]
            rfl
        · have : hasB n (rd_T23 l (j : Int)) q = false := by
            cases hh : hasB n (rd_T23 l (j : Int)) q with
            | false => rfl
            | true => have := hasB_iff.mp hh; omega
          rw [if_neg c2, this]
          rfl
      · have : hasB n (rd_T23 l (j : Int)) q = false := by
          cases hh : hasB n (rd_T23 l (j : Int)) q with
          | false => rfl
          | true =>
            have := (hasB_iff.mp hh).1
            rw [hv] at this
            exact absurd (Option.some.inj this) cv
        rw [if_neg cv, this]
        rfl
    · have cf : (w && !takenB n (l.take j) (q : Int)) = false := by simpa using c
      have hfin : (w && !takenB n l (q : Int)) = false := by
        cases hw : w with
        | false => rfl
        | true =>
          rw [hw, Bool.true_and, Bool.not_eq_false'] at cf
          rw [taken_take cf]
          rfl
      refine ⟨2, by omega, ?_⟩
      rw [cf, if_neg (by simp), hfr, hfin, if_neg (by simp), wr (by omega) (by omega)]
      rfl
theorem blocks_l0 {m : Nat} {l : List S23} (hm : m ≤ 255) (hL : l.length ≤ 1000) : ∀ (d q k : Nat), q + d = 260 → d * (3000 + 2 * l.length) + 5000 < k →
    norialaw14_ExtBlocks.l0 k l m (scanF (takenB m l) ((mn m 1024) - 2).toNat) q = some true := by
  have hmn : mn (m : Int) 1024 = m := by unfold mn; rw [if_neg (by omega)]
  have hpc := scan_pieces (takenB m l) ((mn m 1024) - 2).toNat
  have hfl := scanF_len (takenB m l) ((mn m 1024) - 2).toNat
  have hsm : ∀ e ∈ scanF (takenB m l) ((mn m 1024) - 2).toNat, small e := fun e he => by
    have := hpc.each e he
    exact ⟨by omega, by omega, by omega, by omega⟩
  intro d
  induction d with
  | zero =>
    intro q k hq hk
    obtain ⟨k, rfl⟩ : ∃ m, k = m + 1 := ⟨k - 1, by omega⟩
    simp only [norialaw14_ExtBlocks.l0]
    rw [if_neg (by omega)]
  | succ d ih =>
    intro q k hq hk
    rw [Nat.add_mul] at hk
    obtain ⟨k, rfl⟩ : ∃ m, k = m + 1 := ⟨k - 1, by omega⟩
    have h1 := blocks_l1 (n := m) (l := l) hsm (by omega) (q := q) (by omega) (scanF (takenB m l) ((mn m 1024) - 2).toNat).length 0 k (by omega) (by omega)
    rw [List.take_zero, show inB [] (q : Int) = false from rfl, show ((0 : Nat) : Int) = 0 from rfl] at h1
    simp only [norialaw14_ExtBlocks.l0]
    rw [if_pos (by omega), h1]
    obtain ⟨k2, hk2⟩ : ∃ k2, k - ((scanF (takenB m l) ((mn m 1024) - 2).toNat).length + 1) = k2 + 1 := ⟨k - ((scanF (takenB m l) ((mn m 1024) - 2).toNat).length + 1) - 1, by omega⟩
    rw [hk2]
    have hin : inB (scanF (takenB m l) ((mn m 1024) - 2).toNat) q = (decide (2 ≤ (q : Int) ∧ (q : Int) < m) && !takenB m l q) := by
      rw [Bool.eq_iff_iff, Bool.and_eq_true, decide_eq_true_iff, Bool.not_eq_true']
      constructor
      · intro h
        unfold inB at h
        rw [List.any_eq_true] at h
        obtain ⟨e, he, h2⟩ := h
        rw [decide_eq_true_iff] at h2
        have := hpc.each e he
        exact ⟨by omega, hpc.free e he _ h2.1 h2.2⟩
      · rintro ⟨h2, h3⟩
        obtain ⟨e, he, h4⟩ := hpc.all q h2.1 (by omega) h3
        unfold inB
        rw [List.any_eq_true]
        exact ⟨e, he, by rw [decide_eq_true_iff]; exact h4⟩
    have hj2 : ∀ w : Bool, w = decide (2 ≤ (q : Int) ∧ (q : Int) < m) → norialaw14_ExtBlocks.j2 (k2 + 1) l m (scanF (takenB m l) ((mn m 1024) - 2).toNat) q (inB (scanF (takenB m l) ((mn m 1024) - 2).toNat) q) w = some true := by
      intro w hw
      simp only [norialaw14_ExtBlocks.j2]
      have h2 := blocks_l2 (n := m) (l := l) (f := scanF (takenB m l) ((mn m 1024) - 2).toNat) hL (q := q) (by omega) (w := w) (fr := inB (scanF (takenB m l) ((mn m 1024) - 2).toNat) q) (by rw [hin, hw]) l.length 0 k2 (by omega) (by omega)
      rw [List.take_zero, show takenB m [] (q : Int) = false from rfl, Bool.not_false, Bool.and_true, show ((0 : Nat) : Int) = 0 from rfl] at h2
      rcases h2 with h2 | ⟨r, hr, h2⟩
      · rw [h2]; exact ih (q + 1) _ (by omega) (by omega)
      · rw [h2]; exact ih (q + 1) _ (by omega) (by omega)
    by_cases c : (q : Int) ≥ 2
    · rw [if_pos c]
      refine hj2 _ ?_
      rw [Bool.eq_iff_iff, decide_eq_true_iff, decide_eq_true_iff]
      omega
    · rw [if_neg c]
      refine hj2 _ ?_
      rw [decide_eq_false (by omega)]
theorem ExtBlocks : ∀ (b : Int) (l : List S23), (Lit.int .u8 b).wf = true → ∃ k, norialaw14_ExtBlocks.f k b l = some true := by
  intro b l hb
  have hb := wf_u8 hb
  obtain ⟨m, rfl⟩ := Int.eq_ofNat_of_zero_le hb.1
  refine ⟨3000000, ?_⟩
  unfold norialaw14_ExtBlocks.f
  rw [extKnown, Option.bind_some, if_pos rfl]
  by_cases hc : (l.length : Int) > 20
  · rw [if_pos hc]
  · rw [if_neg hc, wr (by omega) (by omega), free_eq (by omega), Option.bind_some]
    have h1 : 260 * (3000 + 2 * l.length) ≤ 260 * 3040 := Nat.mul_le_mul (Nat.le_refl _) (by omega)
    exact blocks_l0 (by omega) (by omega) 260 0 _ (by omega) (by omega)
end Go.Proofs.Ytijhfdhcnagkcaa.Pure
