/- Moved by any number, round the end of 64 bits, too, only the first step is another one; no conditions. -/
import Derived.Test.YtalgjhmehilioaaDStep
set_option linter.unusedSimpArgs false
set_option linter.unusedVariables false
namespace Go.Proofs.Ytalgjhmehilioaa.Pure
open Go Go.RowKit Go.Proofs.Ytalgjhmehilioaa.PAll Go.Proofs.YtalgjhmehilioaaW.PrintWords Go.Proofs.YtalgjhmehilioaaW.PrintLast Go.Proofs.YtalgjhmehilioaaW.PrintMore Go.Proofs.Ytalgjhmehilioaa.Num
def moved (by_ : Int) (l : List Int) : List Int := l.map fun x => wrap64 (x + by_)
theorem moved_len (b : Int) (l : List Int) : (moved b l).length = l.length := by simp [moved]
theorem moved_I (b : Int) (l : List Int) : isI (moved b l) := by
  intro x hx
  obtain ⟨y, _, rfl⟩ := List.mem_map.mp hx
  exact wr_bd _
theorem wr_diff (a b c : Int) : wrap64 (wrap64 (a + c) - wrap64 (b + c)) = wrap64 (a - b) := by unfold wrap64; omega
theorem moved_steps (b : Int) (l : List Int) : ∀ p, stepsFrom (wrap64 (p + b)) (moved b l) = stepsFrom p l := by
  induction l with
  | nil => intro p; rfl
  | cons n l ih =>
    intro p
    simp only [moved, List.map_cons, stepsFrom, wr_diff]
    congr 1
    exact ih n
theorem zig_inj {a b : Int} (h : zig a = zig b) : a = b := by have := congrArg zag h; rwa [zag_zig, zag_zig] at this
theorem shifts_l0 {l : List Int} {b : Int} (hl : isI l) (hb : -9223372036854775808 ≤ b ∧ b ≤ 9223372036854775807) (h1 : 1 ≤ l.length) (hL : l.length ≤ 100) : ∀ (d i k : Nat), i + d = l.length → d + 1000 < k →
    norialaw6_DeltaShifts.l0 k l b (moved b (l.take i)) i = some true := by
  intro d
  induction d with
  | zero =>
    intro i k hi hk
    obtain ⟨k, rfl⟩ : ∃ m, k = m + 1 := ⟨k - 1, by omega⟩
    have hm := moved_I b l
    have hml := moved_len b l
    simp only [norialaw6_DeltaShifts.l0]
    rw [if_neg (by omega), List.take_of_length_le (by omega), dsteps_eq hl (by omega) (by omega), Option.bind_some, dsteps_eq hm (by omega) (by omega), Option.bind_some, steps_len, steps_len, hml, if_pos rfl, if_pos rfl, if_pos (by omega), if_pos (by omega)]
    obtain ⟨n, t, rfl⟩ : ∃ n t, l = n :: t := by
      cases l with
      | nil => simp at h1
      | cons n t => exact ⟨n, t, rfl⟩
    obtain ⟨hn, ht⟩ := isI_cons hl
    have e : stepsFrom 0 (moved b (n :: t)) = zig (wrap64 (wrap64 (n + b) - 0)) :: stepsFrom n t := by
      simp only [moved, List.map_cons, stepsFrom]
      congr 1
      exact moved_steps b t n
    have hrd : ∀ (x : Int) (t : List Int), rd (x :: t) 0 = x := fun _ _ => rfl
    simp only [List.length_cons] at hL
    rw [e, stepsFrom, List.drop_one, List.drop_one, List.tail_cons, List.tail_cons, same_self (by rw [steps_len]; omega) (by rw [steps_len]; omega), Option.bind_some, if_pos rfl, if_pos (by omega), if_pos (by omega), hrd, hrd]
    congr 1
    rw [beq_iff_eq, Bool.eq_iff_iff, beq_iff_eq, beq_iff_eq]
    constructor
    · intro h
      have := zig_inj h
      unfold wrap64 at this
      omega
    · intro h
      subst h
      congr 1
      unfold wrap64
      omega
  | succ d ih =>
    intro i k hi hk
    obtain ⟨k, rfl⟩ : ∃ m, k = m + 1 := ⟨k - 1, by omega⟩
    have hrd : rd l (i : Int) = l[i]'(by omega) := by
      unfold rd
      rw [Int.toNat_natCast, List.getD_eq_getElem?_getD, List.getElem?_eq_getElem (by omega)]
      rfl
    have hs : moved b (l.take i) ++ [wrap64 (l[i]'(by omega) + b)] = moved b (l.take (i + 1)) := by
      rw [List.take_succ_eq_append_getElem (by omega)]
      unfold moved
      rw [List.map_append]
      rfl
    simp only [norialaw6_DeltaShifts.l0]
    rw [if_pos (by omega), if_pos (by omega), if_pos (by rw [moved_len, List.length_take]; omega), hrd, hs, wr (x := (i : Int) + 1) (by omega) (by omega)]
    exact ih (i + 1) k (by omega) (by omega)
theorem DeltaShifts : norialaw6_DeltaShifts.Pure := by
  intro l b hL1 hL2 hwf hb
  have hl := isI_of_wf hwf
  have hb := wf_i64 hb
  obtain ⟨k, hk⟩ : ∃ k, 10000 ≤ k := ⟨10000, Nat.le_refl _⟩
  refine ⟨k + 1, ?_⟩
  have ht : norialaw6_DeltaShifts.j0 (k + 1) l b true = some true := by
    simp only [norialaw6_DeltaShifts.j0]
    rw [if_pos trivial]
  unfold norialaw6_DeltaShifts.f
  rw [known_k (by omega), Option.bind_some, if_pos rfl]
  by_cases h0 : (l.length : Int) = 0
  · rw [if_pos h0]; exact ht
  · rw [if_neg h0]
    by_cases hc : (l.length : Int) > 100
    · rw [decide_eq_true hc]; exact ht
    · rw [decide_eq_false hc]
      simp only [norialaw6_DeltaShifts.j0]
      rw [if_neg (by simp)]
      exact shifts_l0 hl hb (by omega) (by omega) l.length 0 k (by omega) (by omega)
end Go.Proofs.Ytalgjhmehilioaa.Pure
