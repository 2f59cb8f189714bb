/- What any rooms leave free, as few pieces as may be, as the document says; no conditions. -/
import Derived.Test.YtijhfdhcnagkcaaERef
import Derived.Test.YtijhfdhcnagkcaaPAllx9
set_option linter.unusedSimpArgs false
set_option linter.unusedVariables false
namespace Go.Proofs.Ytijhfdhcnagkcaa.Pure
open Go Go.RowKit Go.Proofs.Ytijhfdhcnagkcaa.PAll Go.Proofs.YtijhfdhcnagkcaaW.PrintWords Go.Proofs.YtijhfdhcnagkcaaW.PrintLast Go.Proofs.YtijhfdhcnagkcaaW.PrintMore Go.Proofs.Ytijhfdhcnagkcaa.Num
theorem piece_small {T : Int → Bool} {n : Nat} {l : List S23} (h : Pieces T n l) (hn : n ≤ 1024) {e : S23} (he : e ∈ l) : small e := by
  have := h.each e he
  exact ⟨this.2.1, by omega, by omega, by omega⟩
theorem free_l1 {b : Int} {l f : List S23} (hf : Pieces (takenB b l) ((mn b 1024) - 2).toNat f) (hfl : f.length ≤ 2000) {i : Nat} (hi : i < f.length) : ∀ (d j k : Nat), j + d = l.length → l.length ≤ 1000 → d + 1 < k →
    norialaw14_ExtFree.l1 k b l f i j = norialaw14_ExtFree.l0 (k - (d + 1)) b l f ((i + 1 : Nat) : Int) := by
  have hm := mn_max b
  have hmem := rd23_mem hi
  have hsm := piece_small hf (by omega) hmem
  intro d
  induction d with
  | zero =>
    intro j k hj hL hk
    obtain ⟨k, rfl⟩ : ∃ m, k = m + 1 := ⟨k - 1, by omega⟩
    simp only [norialaw14_ExtFree.l1]
    rw [if_neg (by omega), wr (by omega) (by omega)]
    rfl
  | succ d ih =>
    intro j k hj hL hk
    obtain ⟨k, rfl⟩ : ∃ m, k = m + 1 := ⟨k - 1, by omega⟩
    have hih := ih (j + 1) k (by omega) hL (by omega)
    rw [show ((j + 1 : Nat) : Int) = (j : Int) + 1 from by omega] at hih
    obtain ⟨c, hc⟩ := check_some (rd_T23 l (j : Int)).f0 (rd_T23 l (j : Int)).f1 b
    simp only [norialaw14_ExtFree.l1]
    rw [if_pos (by omega), if_pos (by omega), hc, Option.bind_some, wr (x := (j : Int) + 1) (by omega) (by omega), hih, show k + 1 - (d + 1 + 1) = k - (d + 1) from by omega]
    by_cases c0 : c = 0
    · subst c0
      have hsu : small (rd_T23 l (j : Int)) := check_small hc
      have hno : ovl (rd_T23 f (i : Int)) (rd_T23 l (j : Int)) = false := by
        unfold ovl
        rw [decide_eq_false_iff_not]
        rintro ⟨h1, h2⟩
        have hju := rd23_mem (l := l) (i := j) (by omega)
        obtain ⟨s1, _, _, _⟩ := hsm
        obtain ⟨u1, _, _, _⟩ := hsu
        rcases lt_ge_ (rd_T23 f (i : Int)).f0 (rd_T23 l (j : Int)).f0 with q | q
        · have e1 := taken_of (q := (rd_T23 l (j : Int)).f0) hju hc (by omega) (by omega)
          rw [hf.free _ hmem _ (by omega) h2] at e1
          cases e1
        · have e1 := taken_of (q := (rd_T23 f (i : Int)).f0) hju hc q h1
          rw [hf.free _ hmem _ (by omega) (by omega)] at e1
          cases e1
      rw [if_pos rfl, if_pos (by omega), if_pos (by omega), ovl_eq hsm hsu, Option.bind_some, hno, if_neg (by simp)]
    · rw [if_neg c0]
theorem free_l0 {b : Int} {l f : List S23} (hf : Pieces (takenB b l) ((mn b 1024) - 2).toNat f) (hfl : f.length ≤ 2000) (hL : l.length ≤ 1000) : ∀ (d i k : Nat), i + d = f.length → d * (l.length + 5) + 5 < k →
    norialaw14_ExtFree.l0 k b l f i = some true := by
  have hm := mn_max b
  intro d
  induction d with
  | zero =>
    intro i k hi hk
    obtain ⟨k, rfl⟩ : ∃ m, k = m + 1 := ⟨k - 1, by omega⟩
    simp only [norialaw14_ExtFree.l0]
    rw [if_neg (by omega)]
  | succ d ih =>
    intro i k hi hk
    rw [Nat.add_mul] at hk
    obtain ⟨k, rfl⟩ : ∃ m, k = m + 2 := ⟨k - 2, by omega⟩
    have hmem := rd23_mem (l := f) (i := i) (by omega)
    have hee := hf.each _ hmem
    have hck : ext_Check.f (rd_T23 f (i : Int)).f0 (rd_T23 f (i : Int)).f1 b = some 0 := check_ok hee.2.1 hee.1 (by omega)
    have hgo : norialaw14_ExtFree.j1 (k + 1) b l f i false = some true := by
      simp only [norialaw14_ExtFree.j1]
      rw [if_neg (by simp)]
      have := free_l1 hf hfl (i := i) (by omega) l.length 0 k (by omega) hL (by omega)
      rw [show ((0 : Nat) : Int) = 0 from rfl] at this
      rw [this]
      exact ih (i + 1) _ (by omega) (by omega)
    show norialaw14_ExtFree.l0 (k + 1 + 1) b l f i = some true
    simp only [norialaw14_ExtFree.l0]
    rw [if_pos (by omega), if_pos (by omega), hck, Option.bind_some, if_pos rfl]
    by_cases c : i = 0
    · rw [if_neg (by omega)]
      exact hgo
    · rw [if_pos (by omega), wr (x := (i : Int) - 1) (by omega) (by omega), if_pos (by omega), if_pos (by omega), show (i : Int) - 1 = ((i - 1 : Nat) : Int) from by omega]
      have hp := hf.each _ (rd23_mem (l := f) (i := i - 1) (by omega))
      have hap : (rd_T23 f ((i - 1 : Nat) : Int)).f0 + (rd_T23 f ((i - 1 : Nat) : Int)).f1 < (rd_T23 f (i : Int)).f0 := by
        rw [rdT_elem (by omega), rdT_elem (by omega)]
        exact List.pairwise_iff_getElem.mp hf.apart (i - 1) i (by omega) (by omega) (by omega)
      rw [wr (by omega) (by omega), decide_eq_false (by omega)]
      exact hgo
theorem ExtFree : ∀ (b : Int) (l : List S23), ∃ k, norialaw14_ExtFree.f k b l = some true := by
  intro b l
  have hm := mn_max b
  refine ⟨3000000, ?_⟩
  unfold norialaw14_ExtFree.f
  rw [extKnown, Option.bind_some, if_pos rfl]
  by_cases hc : (l.length : Int) > 30
  · rw [if_pos hc]
  · have hlen := scanF_len (takenB b l) ((mn b 1024) - 2).toNat
    rw [if_neg hc, free_eq (by omega), Option.bind_some, ofAll_eq (by omega) (by omega), Option.bind_some, rfree_eq (by omega) (by omega), Option.bind_some, same_eq (by omega) (by omega), Option.bind_some, if_pos rfl]
    have hmul : (scanF (takenB b l) ((mn b 1024) - 2).toNat).length * (l.length + 5) ≤ 1024 * 40 := Nat.mul_le_mul (by omega) (by omega)
    exact free_l0 (scan_pieces _ _) (by omega) (by omega) (scanF (takenB b l) ((mn b 1024) - 2).toNat).length 0 _ (by omega) (by omega)
end Go.Proofs.Ytijhfdhcnagkcaa.Pure
