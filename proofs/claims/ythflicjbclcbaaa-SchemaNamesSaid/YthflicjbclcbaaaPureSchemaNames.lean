/- Of as many columns as may be, of names as long as may be, each is found where it stands; one more, one longer, one twice is refused; no conditions. -/
import Derived.Test.YthflicjbclcbaaaSKnown
import Derived.Test.YthflicjbclcbaaaPAllx14
set_option linter.unusedSimpArgs false
set_option linter.unusedVariables false
namespace Go.Proofs.Ythflicjbclcbaaa.Pure
open Go Go.RowKit Go.Proofs.Ythflicjbclcbaaa.PAll Go.Proofs.Ythflicjbclcbaaa.Num Go.Proofs.YthflicjbclcbaaaW.PrintWords Go.Proofs.YthflicjbclcbaaaW.PrintLast Go.Proofs.YthflicjbclcbaaaW.PrintMore
/-- Of the third number only its rest counts. -/
theorem j3_same {x2 y2 x7 : Int} (h : x7 ≠ 0 → Int.tmod (wrap64 x2) x7 = Int.tmod (wrap64 y2) x7) (k : Nat) (x9 : List S36) (x13 : Int) :
    norialaw10_SchemaNames.j3 k x2 x7 x9 x13 = norialaw10_SchemaNames.j3 k y2 x7 x9 x13 := by
  cases k with
  | zero => rfl
  | succ k =>
    by_cases h7 : x7 = 0
    · subst h7
      simp only [norialaw10_SchemaNames.j3, if_true]
    · simp only [norialaw10_SchemaNames.j3, h h7]
theorem all_same {x2 y2 x7 : Int} (h : x7 ≠ 0 → Int.tmod (wrap64 x2) x7 = Int.tmod (wrap64 y2) x7) : ∀ k,
    (∀ x8 x9 x10, norialaw10_SchemaNames.l0 k x2 x7 x8 x9 x10 = norialaw10_SchemaNames.l0 k y2 x7 x8 x9 x10) ∧
    (∀ x8 x9 x10 x11 x12, norialaw10_SchemaNames.l1 k x2 x7 x8 x9 x10 x11 x12 = norialaw10_SchemaNames.l1 k y2 x7 x8 x9 x10 x11 x12) ∧
    (∀ x8 x9 x13 x55, norialaw10_SchemaNames.j2 k x2 x7 x8 x9 x13 x55 = norialaw10_SchemaNames.j2 k y2 x7 x8 x9 x13 x55)
  | 0 => ⟨fun _ _ _ => rfl, fun _ _ _ _ _ => rfl, fun _ _ _ _ => rfl⟩
  | k + 1 => by
    obtain ⟨i0, i1, i2⟩ := all_same h k
    refine ⟨fun x8 x9 x10 => ?_, fun x8 x9 x10 x11 x12 => ?_, fun x8 x9 x13 x55 => ?_⟩
    · simp only [norialaw10_SchemaNames.l0, i1, i2]
    · simp only [norialaw10_SchemaNames.l1, i0, i1]
    · simp only [norialaw10_SchemaNames.j2, j3_same h]
theorem all_names : ∀ n m i : Fin 11, norialaw10_SchemaNames.l0 160 (i.val : Int) (n.val : Int) (m.val : Int) ([] : List S36) 0 = some true := by decide +kernel
theorem SchemaNames : norialaw10_SchemaNames.Pure := by
  intro a0 a1 a2 h0 h1 h2
  have w0 := wf_u8 h0
  have w1 := wf_u8 h1
  have w2 := wf_u8 h2
  refine ⟨200, ?_⟩
  unfold norialaw10_SchemaNames.f
  rw [known_k (by omega)]
  simp only [Option.bind_some, if_true]
  obtain ⟨n, hn⟩ : ∃ n : Nat, Int.tmod a0 11 = (n : Int) ∧ n < 11 := ⟨(a0 % 11).toNat, by rw [Int.tmod_eq_emod_of_nonneg w0.1]; omega, by omega⟩
  obtain ⟨m, hm⟩ : ∃ m : Nat, Int.tmod a1 11 = (m : Int) ∧ m < 11 := ⟨(a1 % 11).toNat, by rw [Int.tmod_eq_emod_of_nonneg w1.1]; omega, by omega⟩
  rw [hn.1, hm.1, wr (x := (n : Int)) (by omega) (by omega), wr (x := (m : Int)) (by omega) (by omega)]
  have key : ∃ i : Nat, i < 11 ∧ ((n : Int) ≠ 0 → Int.tmod (wrap64 a2) (n : Int) = Int.tmod (wrap64 (i : Int)) (n : Int)) := by
    by_cases h : n = 0
    · exact ⟨0, by omega, fun h' => absurd h (by omega)⟩
    · obtain ⟨q, hq⟩ : ∃ q : Nat, a2 = (q : Int) := ⟨a2.toNat, by omega⟩
      subst hq
      have hlt : q % n < n := Nat.mod_lt _ (by omega)
      refine ⟨q % n, by omega, fun _ => ?_⟩
      rw [wr (x := (q : Int)) (by omega) (by omega), wr (x := ((q % n : Nat) : Int)) (by omega) (by omega), Int.tmod_eq_emod_of_nonneg (by omega), Int.tmod_eq_emod_of_nonneg (by omega)]
      rw [Int.natCast_emod, Int.emod_emod_of_dvd _ (Int.dvd_refl _)]
  obtain ⟨i, hi, hs⟩ := key
  rw [(all_same hs 200).1]
  have h := all_names ⟨n, hn.2⟩ ⟨m, hm.2⟩ ⟨i, hi⟩
  exact at_rounds (g := fun k => norialaw10_SchemaNames.l0 k (i : Int) (n : Int) (m : Int) ([] : List S36) 0) (fun k => (norialaw10_SchemaNames.mono_l k).1 _ _ _ _ _) (by omega) h
end Go.Proofs.Ythflicjbclcbaaa.Pure
