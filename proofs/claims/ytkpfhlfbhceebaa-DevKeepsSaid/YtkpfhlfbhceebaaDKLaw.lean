/- The plain law of DevKeeps: which byte fills each block behind a fall. -/
import Derived.Test.YtkpfhlfbhceebaaDRead2
namespace Go.Proofs.Ytkpfhlfbhceebaa.PAll
set_option linter.unusedVariables false
set_option linter.unusedSimpArgs false
/-- What is written, one behind the other: the k-th one fills its block with k + 1. -/
def kw (l : List Int) : Nat → List (Int × List Int)
  | 0 => []
  | k + 1 => kw l k ++ [(l.getD k 0 % 8, List.replicate 64 ((k + 1 : Nat) : Int))]
/-- Which byte each block is said to be full of. -/
def wn (c : Nat → Bool) (l : List Int) : Nat → List Int
  | 0 => List.replicate 8 0
  | k + 1 => if c k then (wn c l k).set (l.getD k 0 % 8).toNat ((k + 1 : Nat) : Int) else wn c l k
theorem kw_length (l : List Int) (n : Nat) : (kw l n).length = n := by
  induction n with
  | zero => rfl
  | succ n ih => simp [kw, ih]
theorem kw_get (l : List Int) {n k : Nat} (h : k < n) : (kw l n)[k]? = some (l.getD k 0 % 8, List.replicate 64 ((k + 1 : Nat) : Int)) := by
  induction n with
  | zero => omega
  | succ n ih =>
    unfold kw
    by_cases e : k < n
    · rw [List.getElem?_append_left (by rw [kw_length]; exact e)]; exact ih e
    · obtain rfl : k = n := by omega
      rw [List.getElem?_append_right (by rw [kw_length]; omega), kw_length]
      simp
theorem wn_length (c : Nat → Bool) (l : List Int) (n : Nat) : (wn c l n).length = 8 := by
  induction n with
  | zero => simp [wn]
  | succ n ih =>
    unfold wn
    split
    · rw [List.length_set, ih]
    · exact ih
theorem dput_blk {B : List Int} {x : Int × List Int} {n j i : Nat} (hn : B.length = n * 64) (hx : x.1 = (j : Int)) (hj : j < n) (h2 : x.2.length = 64) (hi : i < n) :
    ((dput B x).drop (i * 64)).take 64 = if i = j then x.2 else (B.drop (i * 64)).take 64 := by
  have e : x.1.toNat = j := by omega
  apply List.ext_getElem?
  intro m
  unfold dput
  rw [e]
  by_cases hm : m < 64
  · simp only [List.getElem?_take, if_pos hm, List.getElem?_drop, List.getElem?_append, List.length_take, h2]
    by_cases hij : i = j
    · subst hij
      rw [if_pos rfl, if_neg (by omega)]
      rw [show i * 64 + m - min (i * 64) B.length = m from by omega, if_pos hm]
    · rw [if_neg hij]
      by_cases hlt : i < j
      · rw [if_pos (by omega), if_pos (by omega), List.getElem?_take, if_pos hm, List.getElem?_drop]
      · rw [if_neg (by omega), if_neg (by omega), List.getElem?_take, if_pos hm, List.getElem?_drop]
        congr 1
        omega
  · rw [List.getElem?_take, if_neg hm]
    split
    · rw [List.getElem?_eq_none (by omega)]
    · rw [List.getElem?_take, if_neg hm]
theorem keep_law (c : Nat → Bool) (l : List Int) {n : Nat} (i : Nat) (hi : i < 8) : ∀ k, k ≤ n →
    (aft c (kw l n) (List.replicate (8 * 64) 0) k).length = 8 * 64 ∧ ((aft c (kw l n) (List.replicate (8 * 64) 0) k).drop (i * 64)).take 64 = List.replicate 64 ((wn c l k).getD i 0)
  | 0, _ => by
    refine ⟨List.length_replicate, ?_⟩
    show ((List.replicate (8 * 64) (0 : Int)).drop (i * 64)).take 64 = List.replicate 64 ((List.replicate 8 (0 : Int)).getD i 0)
    rw [List.drop_replicate, List.take_replicate, Nat.min_eq_left (by omega)]
    congr 1
    rw [List.getD_eq_getElem?_getD, List.getElem?_replicate, if_pos hi]
    rfl
  | k + 1, hk => by
    obtain ⟨hl, ih⟩ := keep_law (n := n) c l i hi k (by omega)
    unfold aft
    rw [kw_get l (n := n) (k := k) (by omega)]
    simp only
    unfold wn
    cases hc : c k with
    | false =>
      rw [if_neg (by decide), if_neg (by decide)]
      exact ⟨hl, ih⟩
    | true =>
      rw [if_pos rfl, if_pos rfl]
      have h8 : 0 ≤ l.getD k 0 % 8 ∧ l.getD k 0 % 8 < 8 := by omega
      generalize l.getD k 0 % 8 = z at *
      refine ⟨?_, ?_⟩
      · rw [dput_length hl h8.1 h8.2 List.length_replicate]; exact hl
      · rw [dput_blk (j := z.toNat) hl (by show z = _; omega) (by omega) List.length_replicate hi, ih]
        by_cases e : i = z.toNat
        · rw [if_pos e, List.getD_eq_getElem?_getD, e, List.getElem?_set_self (by rw [wn_length]; omega)]
          rfl
        · rw [if_neg e, List.getD_eq_getElem?_getD, List.getD_eq_getElem?_getD, List.getElem?_set_ne (Ne.symm e)]
theorem keep_blk (c : Nat → Bool) (l : List Int) {n : Nat} {i : Nat} (hi : i < 8) : rblk (aft c (kw l n) (List.replicate (8 * 64) 0) n) [] (i : Int) = List.replicate 64 ((wn c l n).getD i 0) := by
  show ((aft c (kw l n) (List.replicate (8 * 64) 0) n).drop (i * 64)).take 64 = _
  exact (keep_law c l i hi n (Nat.le_refl n)).2
end Go.Proofs.Ytkpfhlfbhceebaa.PAll
