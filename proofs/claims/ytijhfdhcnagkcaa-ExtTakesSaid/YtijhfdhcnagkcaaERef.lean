import Derived.Test.YtijhfdhcnagkcaaEBase
import Derived.Test.YtijhfdhcnagkcaaPAllx7
import Derived.Test.YtijhfdhcnagkcaaPAllx8
/- The reference's Free; rows as the document's. -/
set_option linter.unusedSimpArgs false
set_option linter.unusedVariables false
namespace Go.Proofs.Ytijhfdhcnagkcaa.Num
open Go Go.RowKit Go.Proofs.Ytijhfdhcnagkcaa.PAll Go.Proofs.YtijhfdhcnagkcaaW.PrintWords Go.Proofs.YtijhfdhcnagkcaaW.PrintLast Go.Proofs.YtijhfdhcnagkcaaW.PrintMore
theorem rd28_map {l : List S23} {i : Nat} (h : i < l.length) : rd_T28 (l.map to28) (i : Int) = to28 (rd_T23 l (i : Int)) := by
  rw [rdT_elem h]
  unfold rd_T28
  rw [Int.toNat_natCast, List.getD_eq_getElem?_getD, List.getElem?_map, List.getElem?_eq_getElem h]
  rfl
theorem ofAll_l0 {l : List S23} (hL : l.length ≤ 1000000) : ∀ (d i k : Nat), i + d = l.length → d < k → norialaw14_OfAll.l0 k l ((l.take i).map to28) i = some (l.map to28) := by
  intro d
  induction d with
  | zero =>
    intro i k hi hk
    obtain ⟨k, rfl⟩ : ∃ m, k = m + 1 := ⟨k - 1, by omega⟩
    simp only [norialaw14_OfAll.l0]
    rw [if_neg (by omega), List.take_of_length_le (by omega)]
  | succ d ih =>
    intro i k hi hk
    obtain ⟨k, rfl⟩ : ∃ m, k = m + 1 := ⟨k - 1, by omega⟩
    simp only [norialaw14_OfAll.l0]
    rw [if_pos (by omega), if_pos (by omega), of_eq, Option.bind_some, if_pos (by rw [List.length_map, List.length_take]; omega), wr (by omega) (by omega)]
    have := ih (i + 1) k (by omega) (by omega)
    rw [takeT_succ (by omega), List.map_append] at this
    exact this
theorem ofAll_eq {l : List S23} (hL : l.length ≤ 1000000) {k : Nat} (hk : l.length < k) : norialaw14_OfAll.f k l = some (l.map to28) := ofAll_l0 hL l.length 0 k (by omega) hk
theorem same_l0 {l : List S23} (hL : l.length ≤ 1000000) : ∀ (d i k : Nat), i + d = l.length → d < k → norialaw14_Same.l0 k l (l.map to28) i = some true := by
  intro d
  induction d with
  | zero =>
    intro i k hi hk
    obtain ⟨k, rfl⟩ : ∃ m, k = m + 1 := ⟨k - 1, by omega⟩
    simp only [norialaw14_Same.l0]
    rw [if_neg (by omega)]
  | succ d ih =>
    intro i k hi hk
    obtain ⟨k, rfl⟩ : ∃ m, k = m + 1 := ⟨k - 1, by omega⟩
    simp only [norialaw14_Same.l0]
    rw [if_pos (by omega), if_pos (by omega), of_eq, Option.bind_some, if_pos (by rw [List.length_map]; omega), rd28_map (by omega), wr (by omega) (by omega)]
    rw [if_neg (by simp [to28])]
    exact ih (i + 1) k (by omega) (by omega)
theorem same_eq {l : List S23} (hL : l.length ≤ 1000000) {k : Nat} (hk : l.length < k) : norialaw14_Same.f k l (l.map to28) = some true := by
  unfold norialaw14_Same.f
  rw [if_pos (by rw [List.length_map])]
  exact same_l0 hL l.length 0 k (by omega) hk
theorem check_min (x y b : Int) : ext_Check.f x y (mn b 1024) = ext_Check.f x y b := by
  have : mn (mn b 1024) 1024 = mn b 1024 := by unfold mn; split <;> (try split) <;> omega
  unfold ext_Check.f
  rw [this]
/-- One block, over all that is used. -/
theorem rfree_l1 {b : Int} {l : List S23} (hL : l.length ≤ 1000) {acc : List S28} {q : Int} (h0 : 0 ≤ q) (h1 : q ≤ 5000) : ∀ (d i k : Nat), i + d = l.length → d + 1 < k →
    ∃ j, j ≤ d + 2 ∧ noriaref18_Free.l1 k (mn b 1024) (l.map to28) acc q (!takenB b (l.take i) q) i = noriaref18_Free.j3 (k - j) (mn b 1024) (l.map to28) acc q (!takenB b l q) := by
  intro d
  induction d with
  | zero =>
    intro i k hi hk
    obtain ⟨k, rfl⟩ : ∃ m, k = m + 1 := ⟨k - 1, by omega⟩
    refine ⟨1, by omega, ?_⟩
    simp only [noriaref18_Free.l1]
    rw [if_neg (by rw [List.length_map]; omega), List.take_of_length_le (by omega)]
    rfl
  | succ d ih =>
    intro i k hi hk
    obtain ⟨k, rfl⟩ : ∃ m, k = m + 1 := ⟨k - 1, by omega⟩
    have hsn : takenB b (l.take (i + 1)) q = (takenB b (l.take i) q || hasB b (rd_T23 l (i : Int)) q) := by rw [takeT_succ (by omega), takenB_snoc]
    simp only [noriaref18_Free.l1]
    rw [if_pos (by rw [List.length_map]; omega)]
    by_cases c : takenB b (l.take i) q = true
    · refine ⟨1, by omega, ?_⟩
      rw [c, if_neg (by simp), taken_take c]
      rfl
    · have cf : takenB b (l.take i) q = false := by simpa using c
      rw [cf, if_pos (by rfl), if_pos (by omega), rd28_map (by omega), wr (x := (i : Int) + 1) (by omega) (by omega)]
      obtain ⟨v, hv⟩ := check_some (rd_T23 l (i : Int)).f0 (rd_T23 l (i : Int)).f1 b
      have hv2 : noriaref18_CheckExt.f (to28 (rd_T23 l (i : Int))).f0 (to28 (rd_T23 l (i : Int))).f1 (mn b 1024) = some v := by rw [check_ref, check_min]; exact hv
      rw [hv2, Option.bind_some]
      have go : ∀ nb : Bool, nb = !hasB b (rd_T23 l (i : Int)) q → ∃ j, j ≤ d + 1 + 2 ∧ noriaref18_Free.l1 k (mn b 1024) (l.map to28) acc q nb ((i : Int) + 1) = noriaref18_Free.j3 (k + 1 - j) (mn b 1024) (l.map to28) acc q (!takenB b l q) := by
        intro nb hnb
        obtain ⟨j, hj, he⟩ := ih (i + 1) k (by omega) (by omega)
        refine ⟨j + 1, by omega, ?_⟩
        rw [hsn, cf, Bool.false_or] at he
        rw [hnb, show (i : Int) + 1 = ((i + 1 : Nat) : Int) from by omega, he, show k + 1 - (j + 1) = k - j from by omega]
      by_cases cv : v = 0
      · subst cv
        rw [if_pos rfl]
        have hsm := check_small hv
        obtain ⟨s1, s2, s3, s4⟩ := hsm
        dsimp only at s1 s2 s3 s4
        have e0 : (to28 (rd_T23 l (i : Int))).f0 = (rd_T23 l (i : Int)).f0 := rfl
        have e1 : (to28 (rd_T23 l (i : Int))).f1 = (rd_T23 l (i : Int)).f1 := rfl
        rw [e0, e1]
        by_cases c2 : q < (rd_T23 l (i : Int)).f0
        · rw [if_pos c2]
          refine go true ?_
          symm
          rw [Bool.not_eq_true']
          cases hh : hasB b (rd_T23 l (i : Int)) q with
          | false => rfl
          | true => have := hasB_iff.mp hh; omega
        · rw [if_neg c2, wr (x := q - (rd_T23 l (i : Int)).f0) (by omega) (by omega)]
          refine go _ ?_
          rw [Bool.eq_iff_iff, decide_eq_true_iff, Bool.not_eq_true']
          cases hh : hasB b (rd_T23 l (i : Int)) q with
          | false =>
            refine ⟨fun _ => rfl, fun _ => ?_⟩
            have : ¬ hasB b (rd_T23 l (i : Int)) q = true := by rw [hh]; simp
            rw [hasB_iff] at this
            have h3 : ¬ (rd_T23 l (i : Int)).f0 ≤ q ∨ ¬ q < (rd_T23 l (i : Int)).f0 + (rd_T23 l (i : Int)).f1 := by
              by_cases g : (rd_T23 l (i : Int)).f0 ≤ q
              · exact .inr (fun g2 => this ⟨hv, g, g2⟩)
              · exact .inl g
            omega
          | true =>
            have := hasB_iff.mp hh
            refine ⟨fun h => by omega, fun h => by cases h⟩
      · rw [if_neg cv]
        refine go true ?_
        symm
        rw [Bool.not_eq_true']
        cases hh : hasB b (rd_T23 l (i : Int)) q with
        | false => rfl
        | true =>
          have := (hasB_iff.mp hh).1
          rw [hv] at this
          exact absurd (Option.some.inj this) cv
theorem addTo_map {l : List S23} {i : Int} (hl : ∀ e ∈ l, -9000000000000000000 ≤ e.f0 ∧ e.f0 ≤ 5000 ∧ 0 ≤ e.f1 ∧ e.f1 ≤ 5000) : (addTo l i).map to28 =
    if l.length = 0 then [⟨i, 1⟩] else (if (rd_T28 (l.map to28) ((l.length - 1 : Nat) : Int)).f0 + (rd_T28 (l.map to28) ((l.length - 1 : Nat) : Int)).f1 = i then (l.map to28).set (l.length - 1) ⟨(rd_T28 (l.map to28) ((l.length - 1 : Nat) : Int)).f0, (rd_T28 (l.map to28) ((l.length - 1 : Nat) : Int)).f1 + 1⟩ else l.map to28 ++ [⟨i, 1⟩]) := by
  unfold addTo
  cases hh : l.getLast? with
  | none =>
    rw [List.getLast?_eq_none_iff] at hh
    subst hh
    rfl
  | some e =>
    obtain ⟨p, hp, hd⟩ := getLast_split hh
    have hlen : l.length = p.length + 1 := by rw [hp, List.length_append]; rfl
    have hr : rd_T28 (l.map to28) ((l.length - 1 : Nat) : Int) = to28 e := by
      rw [rd28_map (by omega), rdT_elem (by omega)]
      congr 1
      have : l[l.length - 1]? = some e := by rw [← List.getLast?_eq_getElem?]; exact hh
      rw [List.getElem?_eq_getElem (by omega)] at this
      exact Option.some.inj this
    rw [if_neg (by omega), hr]
    simp only []
    show _ = if e.f0 + e.f1 = i then _ else _
    by_cases c : e.f0 + e.f1 = i
    · rw [if_pos c, if_pos c, hd, List.map_append]
      have : (l.map to28).set (l.length - 1) ⟨e.f0, e.f1 + 1⟩ = p.map to28 ++ [⟨e.f0, e.f1 + 1⟩] := by
        rw [hp, List.map_append, List.length_append]
        rw [List.set_append_right _ _ (by rw [List.length_map]; simp)]
        simp
      show _ = (l.map to28).set (l.length - 1) ⟨e.f0, e.f1 + 1⟩
      rw [this]
      rfl
    · rw [if_neg c, if_neg c, List.map_append]
      rfl
theorem rfree_l0 {b : Int} {l : List S23} (hL : l.length ≤ 1000) : ∀ (d j k : Nat), (2 + (j : Int) + d = mn b 1024 ∨ d = 0 ∧ mn b 1024 ≤ 2 + (j : Int) ∧ j = 0) → j ≤ 1024 → d * (l.length + 5) + 5 < k →
    noriaref18_Free.l0 k (mn b 1024) (l.map to28) ((scanF (takenB b l) j).map to28) (2 + (j : Int)) = some ((scanF (takenB b l) (j + d)).map to28) := by
  have hm := mn_max b
  intro d
  induction d with
  | zero =>
    intro j k hj hj2 hk
    obtain ⟨k, rfl⟩ : ∃ m, k = m + 1 := ⟨k - 1, by omega⟩
    simp only [noriaref18_Free.l0]
    rw [if_neg (by omega)]
    rfl
  | succ d ih =>
    intro j k hj hj2 hk
    rw [Nat.add_mul] at hk
    obtain ⟨k, rfl⟩ : ∃ m, k = m + 1 := ⟨k - 1, by omega⟩
    obtain ⟨r, hr, he⟩ := rfree_l1 (b := b) (l := l) hL (acc := (scanF (takenB b l) j).map to28) (q := 2 + (j : Int)) (by omega) (by omega) l.length 0 k (by omega) (by omega)
    have hlen := scanF_len (takenB b l) j
    have hpc := scan_pieces (takenB b l) j
    have hbd : ∀ e ∈ scanF (takenB b l) j, -9000000000000000000 ≤ e.f0 ∧ e.f0 ≤ 5000 ∧ 0 ≤ e.f1 ∧ e.f1 ≤ 5000 := fun e he => by have := hpc.each e he; omega
    have hih := ih (j + 1) (k - r - 1) (by omega) (by omega) (by omega)
    rw [show (2 : Int) + ((j + 1 : Nat) : Int) = 2 + (j : Int) + 1 from by omega, show j + 1 + d = j + (d + 1) from by omega] at hih
    simp only [noriaref18_Free.l0]
    have he' : noriaref18_Free.l1 k (mn b 1024) (l.map to28) ((scanF (takenB b l) j).map to28) (2 + (j : Int)) true 0 = _ := he
    rw [if_pos (by omega), he']
    obtain ⟨k2, hk2⟩ : ∃ k2, k - r = k2 + 1 := ⟨k - r - 1, by omega⟩
    rw [hk2] at hih ⊢
    rw [Nat.add_sub_cancel] at hih
    simp only [noriaref18_Free.j3]
    rw [wr (x := 2 + (j : Int) + 1) (by omega) (by omega)]
    by_cases c : takenB b l (2 + (j : Int)) = true
    · rw [c, if_neg (by simp), ← hih, scanF, c, if_pos rfl]
    · have cf : takenB b l (2 + (j : Int)) = false := by simpa using c
      have hmap := addTo_map (i := 2 + (j : Int)) hbd
      rw [scanF, cf, if_neg (by simp), hmap] at hih
      rw [cf, if_pos (by rfl), List.length_map]
      by_cases cl : (scanF (takenB b l) j).length = 0
      · rw [if_pos cl] at hih
        rw [if_neg (by omega), if_pos (by omega), ← hih]
        have : scanF (takenB b l) j = [] := List.length_eq_zero_iff.mp cl
        rw [this]
        rfl
      · rw [if_neg cl] at hih
        rw [if_pos (by omega), wr (x := ((scanF (takenB b l) j).length : Int) - 1) (by omega) (by omega), if_pos (by omega), if_pos (by omega), show ((scanF (takenB b l) j).length : Int) - 1 = (((scanF (takenB b l) j).length - 1 : Nat) : Int) from by omega]
        have hx : ∃ e ∈ scanF (takenB b l) j, rd_T28 ((scanF (takenB b l) j).map to28) (((scanF (takenB b l) j).length - 1 : Nat) : Int) = to28 e := ⟨_, rd23_mem (by omega), rd28_map (by omega)⟩
        obtain ⟨e, heM, hee⟩ := hx
        have hbe := hbd e heM
        rw [hee] at hih ⊢
        have w1 : wrap64 ((to28 e).f0 + (to28 e).f1) = (to28 e).f0 + (to28 e).f1 := wr (by show -9223372036854775808 ≤ e.f0 + e.f1; omega) (by show e.f0 + e.f1 ≤ _; omega)
        have w2 : wrap64 ((to28 e).f1 + 1) = (to28 e).f1 + 1 := wr (by show -9223372036854775808 ≤ e.f1 + 1; omega) (by show e.f1 + 1 ≤ _; omega)
        rw [w1, w2, Int.toNat_natCast]
        by_cases c3 : (to28 e).f0 + (to28 e).f1 = 2 + (j : Int)
        · rw [if_pos c3] at hih ⊢
          rw [hih]
        · rw [if_neg c3] at hih ⊢
          rw [if_pos (by omega), hih]
theorem rfree_eq {b : Int} {l : List S23} (hL : l.length ≤ 1000) {k : Nat} (hk : 1024 * (l.length + 5) + 100 < k) : noriaref18_Free.f k b (l.map to28) = some ((scanF (takenB b l) ((mn b 1024) - 2).toNat).map to28) := by
  have hm := mn_max b
  obtain ⟨k, rfl⟩ : ∃ m, k = m + 1 := ⟨k - 1, by omega⟩
  have key : noriaref18_Free.j0 (k + 1) (mn b 1024) (l.map to28) = some ((scanF (takenB b l) ((mn b 1024) - 2).toNat).map to28) := by
    simp only [noriaref18_Free.j0]
    have h1 : ((mn b 1024) - 2).toNat * (l.length + 5) ≤ 1024 * (l.length + 5) := Nat.mul_le_mul (by omega) (Nat.le_refl _)
    have := rfree_l0 (b := b) hL ((mn b 1024) - 2).toNat 0 k (by omega) (by omega) (by omega)
    rw [Nat.zero_add] at this
    exact this
  unfold noriaref18_Free.f
  by_cases c : b > 1024
  · rw [if_pos c]
    rw [show mn b 1024 = 1024 from by unfold mn; rw [if_pos (by omega)]] at key ⊢
    exact key
  · rw [if_neg c]
    rw [show mn b 1024 = b from by unfold mn; rw [if_neg (by omega)]] at key ⊢
    exact key
end Go.Proofs.Ytijhfdhcnagkcaa.Num
