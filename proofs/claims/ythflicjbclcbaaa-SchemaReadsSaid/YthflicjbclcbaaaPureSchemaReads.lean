/- Any bytes from any place on are read as a schema as the document does, or refused with its reason; no conditions. -/
import Derived.Test.YthflicjbclcbaaaSKnown
import Derived.Test.YthflicjbclcbaaaSGet
import Derived.Test.YthflicjbclcbaaaPAllx13
set_option linter.unusedSimpArgs false
set_option linter.unusedVariables false
namespace Go.Proofs.Ythflicjbclcbaaa.Pure
open Go Go.RowKit Go.Proofs.Ythflicjbclcbaaa.PAll Go.Proofs.Ythflicjbclcbaaa.Num Go.Proofs.YthflicjbclcbaaaW.PrintWords Go.Proofs.YthflicjbclcbaaaW.PrintLast Go.Proofs.YthflicjbclcbaaaW.PrintMore
theorem both_gets {l : List Int} {a : Int} (hB : isB l) (hL : l.length ≤ 400) (k : Nat) (hk : 1500 < k) :
    ∃ (S : List S36) (N E : Int), S.length ≤ 8 ∧ schema_Get.f k l a = some (S, N, E) ∧ noriaref11_GetSchema.f k l a = some (S.map cv, N, E) := by
  unfold schema_Get.f noriaref11_GetSchema.f
  by_cases ho : a < 0 ∨ (l.length : Int) < a
  · rw [get_out k ho (by omega), rget_out k ho (by omega)]
    exact ⟨[], 0, 1, by simp, by simp, by simp⟩
  · rw [get_eq k hB (by omega) (by omega) (by omega) (by omega), rget_eq k hB (by omega) (by omega) (by omega) (by omega)]
    simp only [Option.bind_some]
    rcases gd_res (l.drop a.toNat) 0 0 (isB_drop hB _) with h | h | ⟨U, N, h⟩
    · rw [h]
      exact ⟨[], 0, 5, by simp, by simp, by simp⟩
    · rw [h]
      exact ⟨[], 0, 2, by simp, by simp, by simp⟩
    · rw [h]
      obtain ⟨v, e1, e2, e3, e4, e5, _⟩ := gd_back _ 0 0 U N (isB_drop hB _) (by omega) h (by decide)
      simp only [Nat.pow_zero, Nat.mul_one, Nat.zero_add] at e1 e5
      subst e1
      rw [List.length_drop] at e3
      obtain ⟨z, hz2⟩ : ∃ z, z = (enc v).length := ⟨_, rfl⟩
      rw [← hz2] at e2 e3
      obtain rfl : N = (z : Int) := by omega
      clear e2 e4 hz2 h
      obtain ⟨x, rfl⟩ : ∃ x : Nat, a = (x : Int) := ⟨a.toNat, by omega⟩
      simp only [if_true]
      obtain ⟨k, rfl⟩ : ∃ m, k = m + 1 := ⟨k - 1, by omega⟩
      by_cases c8 : v ≤ 8
      · rw [if_neg (by omega)]
        by_cases c1 : 1 ≤ v
        · rw [if_neg (by omega), show decide ((v : Int) > 8) = false from decide_eq_false (by omega)]
          simp only [noriaref11_GetSchema.j0]
          rw [if_neg (by simp)]
          have hp : ∃ (S : List S36) (N E : Int), S.length ≤ 8 ∧ schema_Get.l0 (k + 1) l (x : Int) [] (z : Int) (v : Int) 0 = some (S, N, E) ∧ noriaref11_GetSchema.l0 (k + 1) l (x : Int) (v : Int) (z : Int) [] 0 = some (S.map cv, N, E) := by
            have := get_loops hB hL (a := x) (by omega) c1 c8 v 0 z (k + 1) [] (by omega) (by omega) rfl (fun j hj => by simp at hj) (by omega)
            exact this
          have hq : ∃ (S : List S36) (N E : Int), S.length ≤ 8 ∧ schema_Get.l0 k l (x : Int) [] (z : Int) (v : Int) 0 = some (S, N, E) ∧ noriaref11_GetSchema.l0 k l (x : Int) (v : Int) (z : Int) [] 0 = some (S.map cv, N, E) := by
            have := get_loops hB hL (a := x) (by omega) c1 c8 v 0 z k [] (by omega) (by omega) rfl (fun j hj => by simp at hj) (by omega)
            exact this
          obtain ⟨S, N, E, g0, g1, g2⟩ := hq
          refine ⟨S, N, E, g0, ?_, g2⟩
          exact (schema_Get.mono_l k _ _ _ _ _ _) _ g1
        · obtain rfl : v = 0 := by omega
          rw [if_pos (by omega)]
          simp only [noriaref11_GetSchema.j0, if_true]
          refine ⟨[], 0, 4, by simp, ?_, rfl⟩
          simp only [schema_Get.l0]
          rw [if_neg (by omega)]
          obtain ⟨c, hc⟩ := checks [] (by simp) (fun j hj => by simp at hj)
          have h1 := (hc k (by omega)).1
          obtain ⟨k, rfl⟩ : ∃ m, k = m + 1 := ⟨k - 1, by omega⟩
          have h4 : schema_Check.f (k + 1) [] = some 4 := by
            unfold schema_Check.f
            rw [if_pos (by simp)]
            simp only [schema_Check.j0, if_true]
          rw [h4]
          simp
      · rw [if_pos (by omega), if_neg (by omega), show decide ((v : Int) > 8) = true from decide_eq_true (by omega)]
        simp only [noriaref11_GetSchema.j0, if_true]
        exact ⟨[], 0, 4, by simp, rfl, rfl⟩
theorem SchemaReads : norialaw10_SchemaReads.Pure := by
  intro l0 a1 _ _ hb ha
  have hB := isB_of_wf hb
  refine ⟨2000, ?_⟩
  unfold norialaw10_SchemaReads.f
  rw [known_k (by omega)]
  simp only [Option.bind_some, if_true]
  by_cases hl : (l0.length : Int) > 400
  · rw [if_pos hl]
  · rw [if_neg hl]
    obtain ⟨S, N, E, g0, g1, g2⟩ := both_gets (a := a1) hB (by omega) 2000 (by omega)
    rw [g1, g2]
    simp only [Option.bind_some, if_true]
    have h1 := of_l0 S g0 S.length 0 2000 [] (by omega) (by simp) (by omega)
    have h2 := same_l0 (S.map cv) (by rw [List.length_map]; exact g0) (S.map cv).length 0 2000 (by omega) (by rw [List.length_map]; omega)
    unfold norialaw10_Of.f
    rw [show ((0 : Nat) : Int) = 0 from rfl] at h1 h2
    rw [h1]
    simp only [Option.bind_some]
    unfold noriaref11_SameSchema.f
    rw [if_pos rfl, h2]
    simp
end Go.Proofs.Ythflicjbclcbaaa.Pure
