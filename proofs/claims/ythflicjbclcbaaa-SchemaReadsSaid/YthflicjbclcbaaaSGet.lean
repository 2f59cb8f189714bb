import Derived.Test.YthflicjbclcbaaaSChk
import Derived.Test.YthflicjbclcbaaaNGet
import Derived.Test.YthflicjbclcbaaaNRGet
import Derived.Test.YthflicjbclcbaaaPAllx5
import Derived.Test.YthflicjbclcbaaaPAllx12
import Derived.Test.YthflicjbclcbaaaPAllx13
import Derived.Test.YthflicjbclcbaaaPAllx12
/- What the program's and the document's reading of columns compute. -/
set_option linter.unusedSimpArgs false
set_option linter.unusedVariables false
namespace Go.Proofs.Ythflicjbclcbaaa.Num
open Go Go.RowKit Go.Proofs.Ythflicjbclcbaaa.PAll Go.Proofs.YthflicjbclcbaaaW.PrintWords Go.Proofs.YthflicjbclcbaaaW.PrintLast Go.Proofs.YthflicjbclcbaaaW.PrintMore
theorem strOf_size (l : List Int) : (strOfNums l).size = l.length := by
  unfold strOfNums
  simp [ByteArray.size]
/-- Both loops, from column i on. -/
theorem get_loops {l : List Int} (hB : isB l) (hL : l.length ≤ 400) {a : Nat} (ha : a ≤ l.length) {many : Nat} (hm1 : 1 ≤ many) (hm : many ≤ 8) : ∀ d i n k : Nat, ∀ s : List S36, i + d = many → a + n ≤ l.length → s.length = i →
    (∀ j, j < s.length → (rd_T36 s (j : Int)).f0.size ≤ 1000) → 1400 + d < k →
    ∃ (S : List S36) (N E : Int), S.length ≤ 8 ∧ schema_Get.l0 k l (a : Int) s (n : Int) (many : Int) (i : Int) = some (S, N, E) ∧ noriaref11_GetSchema.l0 k l (a : Int) (many : Int) (n : Int) (s.map cv) (i : Int) = some (S.map cv, N, E) := by
  intro d
  induction d with
  | zero =>
    intro i n k s hi hn hs hz hk
    obtain ⟨k, rfl⟩ : ∃ m, k = m + 1 := ⟨k - 1, by omega⟩
    obtain ⟨c, hc⟩ := checks s (by omega) hz
    obtain ⟨h1, h2⟩ := hc k (by omega)
    simp only [schema_Get.l0, noriaref11_GetSchema.l0]
    rw [if_neg (by omega), wr (x := (many : Int)) (by omega) (by omega), if_neg (by omega), h1, h2]
    simp only [Option.bind_some]
    by_cases h : c = 0
    · rw [if_pos h, if_pos h]
      exact ⟨s, n, 0, by omega, rfl, rfl⟩
    · rw [if_neg h, if_neg h]
      exact ⟨[], 0, c, by simp, rfl, rfl⟩
  | succ d ih =>
    intro i n k s hi hn hs hz hk
    obtain ⟨k, rfl⟩ : ∃ m, k = m + 1 := ⟨k - 1, by omega⟩
    simp only [schema_Get.l0, noriaref11_GetSchema.l0, noriaref11_GetWord.f]
    rw [if_pos (by omega), wr (x := (many : Int)) (by omega) (by omega), if_pos (by omega), wr (x := (a : Int) + (n : Int)) (by omega) (by omega)]
    rw [get_eq k hB (a := (a : Int) + (n : Int)) (by omega) (by omega) (by omega) (by omega), rget_eq k hB (a := (a : Int) + (n : Int)) (by omega) (by omega) (by omega) (by omega)]
    rw [Option.bind_some, Option.bind_some]
    rw [show ((a : Int) + (n : Int)).toNat = a + n from by omega]
    rcases gd_res (l.drop (a + n)) 0 0 (isB_drop hB _) with h | h | ⟨U, N, h⟩
    · rw [h]
      dsimp only
      rw [if_neg (by decide), if_neg (by decide), Option.bind_some]
      dsimp only
      rw [if_neg (by decide)]
      exact ⟨[], 0, 5, by simp, rfl, rfl⟩
    · rw [h]
      dsimp only
      rw [if_neg (by decide), if_neg (by decide), Option.bind_some]
      dsimp only
      rw [if_neg (by decide)]
      exact ⟨[], 0, 2, by simp, rfl, rfl⟩
    · rw [h]
      obtain ⟨v, e1, e2, e3, e4, e5, _⟩ := gd_back _ 0 0 U N (isB_drop hB _) (by omega) h (by decide)
      simp only [Nat.pow_zero, Nat.mul_one, Nat.zero_add] at e1 e5
      subst e1
      rw [List.length_drop] at e3
      obtain ⟨z, hz2⟩ : ∃ z, z = (enc v).length := ⟨_, rfl⟩
      rw [← hz2] at e2 e3
      obtain rfl : N = (z : Int) := by omega
      clear e2 e4 hz2 h
      dsimp only
      rw [if_pos rfl, if_pos rfl]
      rw [wr (x := (l.length : Int) - (a : Int)) (by omega) (by omega), wr (x := (n : Int) + (z : Int)) (by omega) (by omega), wr (x := (l.length : Int) - (a : Int) - ((n : Int) + (z : Int))) (by omega) (by omega), wu (x := (l.length : Int) - (a : Int) - ((n : Int) + (z : Int))) (by omega) (by omega)]
      rw [wr (x := (l.length : Int) - ((a : Int) + (n : Int))) (by omega) (by omega), wr (x := (l.length : Int) - ((a : Int) + (n : Int)) - (z : Int)) (by omega) (by omega), wu (x := (l.length : Int) - ((a : Int) + (n : Int)) - (z : Int)) (by omega) (by omega)]
      rw [if_neg (show ¬ ((v : Int) > 18446744073709551615) from by omega)]
      by_cases c : (v : Int) ≥ (l.length : Int) - (a : Int) - ((n : Int) + (z : Int))
      · rw [if_pos c]
        refine ⟨[], 0, 5, by simp, rfl, ?_⟩
        by_cases c2 : (l.length : Int) - ((a : Int) + (n : Int)) - (z : Int) < (v : Int)
        · rw [if_pos c2, Option.bind_some]
          dsimp only
          rw [if_neg (by decide)]
          rfl
        · rw [if_neg c2, wr (x := (a : Int) + (n : Int) + (z : Int)) (by omega) (by omega), if_pos (by omega), wr (x := (v : Int)) (by omega) (by omega), wr (x := (a : Int) + (n : Int) + (z : Int) + (v : Int)) (by omega) (by omega), if_pos (by omega), if_pos (by omega)]
          rw [Option.bind_some]
          dsimp only
          rw [if_pos rfl]
          rw [wr (x := (z : Int) + (v : Int)) (by omega) (by omega), wr (x := (n : Int) + ((z : Int) + (v : Int))) (by omega) (by omega), wr (x := (a : Int) + ((n : Int) + ((z : Int) + (v : Int)))) (by omega) (by omega), if_pos (by omega)]
          rfl
      · rw [if_neg c, wr (x := (v : Int)) (by omega) (by omega)]
        rw [wr (x := (a : Int) + ((n : Int) + (z : Int))) (by omega) (by omega), wr (x := (a : Int) + ((n : Int) + (z : Int)) + (v : Int)) (by omega) (by omega)]
        rw [if_pos (by omega), if_pos (by omega), if_pos (by omega), if_pos (by omega), if_pos (by omega), if_pos (by omega)]
        rw [if_neg (show ¬ ((l.length : Int) - ((a : Int) + (n : Int)) - (z : Int) < (v : Int)) from by omega)]
        rw [wr (x := (a : Int) + (n : Int) + (z : Int)) (by omega) (by omega), if_pos (by omega), wr (x := (a : Int) + (n : Int) + (z : Int) + (v : Int)) (by omega) (by omega), if_pos (by omega), if_pos (by omega)]
        rw [Option.bind_some]
        dsimp only
        rw [if_pos rfl]
        rw [wr (x := (z : Int) + (v : Int)) (by omega) (by omega), wr (x := (n : Int) + ((z : Int) + (v : Int))) (by omega) (by omega), wr (x := (a : Int) + ((n : Int) + ((z : Int) + (v : Int)))) (by omega) (by omega), if_neg (by omega), if_pos (by omega), if_pos (by omega), if_pos (by rw [List.length_map]; omega)]
        rw [wr (x := (v : Int) + 1) (by omega) (by omega), wr (x := (n : Int) + (z : Int) + ((v : Int) + 1)) (by omega) (by omega), wu (x := (i : Int) + 1) (by omega) (by omega), wr (x := (n : Int) + ((z : Int) + (v : Int)) + 1) (by omega) (by omega), wr (x := (i : Int) + 1) (by omega) (by omega)]
        rw [show (a : Int) + ((n : Int) + ((z : Int) + (v : Int))) = (a : Int) + ((n : Int) + (z : Int)) + (v : Int) from by omega, show (a : Int) + (n : Int) + (z : Int) + (v : Int) = (a : Int) + ((n : Int) + (z : Int)) + (v : Int) from by omega, show (a : Int) + (n : Int) + (z : Int) = (a : Int) + ((n : Int) + (z : Int)) from by omega]
        generalize hname : strOfNums (List.drop ((a : Int) + ((n : Int) + (z : Int))).toNat (List.take ((a : Int) + ((n : Int) + (z : Int)) + (v : Int)).toNat l)) = name
        generalize wrap64 (rd l ((a : Int) + ((n : Int) + (z : Int)) + (v : Int))) = kd
        have hns : name.size ≤ 1000 := by
          rw [← hname, strOf_size, List.length_drop, List.length_take]
          omega
        have := ih (i + 1) (n + (z + (v + 1))) k (s ++ [(⟨name, kd⟩ : S36)]) (by omega) (by omega) (by simp; omega) (by
          intro j hj
          rw [List.length_append] at hj
          simp only [List.length_cons, List.length_nil] at hj
          unfold rd_T36
          simp only [Int.toNat_natCast, List.getD]
          by_cases h : j < s.length
          · have := hz j h
            unfold rd_T36 at this
            simp only [Int.toNat_natCast, List.getD] at this
            rw [List.getElem?_append_left h]
            exact this
          · rw [List.getElem?_append_right (by omega), show j - s.length = 0 from by omega]
            exact hns) (by omega)
        obtain ⟨S, N, E, g0, g1, g2⟩ := this
        refine ⟨S, N, E, g0, ?_, ?_⟩
        · rw [show ((i + 1 : Nat) : Int) = (i : Int) + 1 from by omega, show ((n + (z + (v + 1)) : Nat) : Int) = (n : Int) + (z : Int) + ((v : Int) + 1) from by omega] at g1
          exact g1
        · rw [show ((i + 1 : Nat) : Int) = (i : Int) + 1 from by omega, show ((n + (z + (v + 1)) : Nat) : Int) = (n : Int) + ((z : Int) + (v : Int)) + 1 from by omega, List.map_append] at g2
          exact g2
theorem of_l0 (s : List S36) (hl : s.length ≤ 8) : ∀ (d i k : Nat) (acc : List S63), i + d = s.length → acc = (s.map cv).take i → d < k → norialaw10_Of.l0 k s acc (i : Int) = some (s.map cv) := by
  intro d
  induction d with
  | zero =>
    intro i k acc hi ha hk
    obtain ⟨k, rfl⟩ : ∃ m, k = m + 1 := ⟨k - 1, by omega⟩
    simp only [norialaw10_Of.l0]
    rw [if_neg (by omega), ha, List.take_of_length_le (by rw [List.length_map]; omega)]
  | succ d ih =>
    intro i k acc hi ha hk
    obtain ⟨k, rfl⟩ : ∃ m, k = m + 1 := ⟨k - 1, by omega⟩
    simp only [norialaw10_Of.l0]
    have hal : acc.length ≤ 8 := by rw [ha, List.length_take, List.length_map]; omega
    rw [if_pos (by omega), if_pos (by omega), if_pos (by omega), wr (x := (i : Int) + 1) (by omega) (by omega)]
    have := ih (i + 1) k (acc ++ [cv (rd_T36 s (i : Int))]) (by omega) (by
      have hlt : i < (s.map cv).length := by rw [List.length_map]; omega
      rw [List.take_succ_eq_append_getElem hlt, ha]
      congr 2
      rw [← rd_cv s (by omega)]
      unfold rd_T63
      rw [Int.toNat_natCast, List.getD_eq_getElem?_getD, List.getElem?_eq_getElem hlt]
      rfl) (by omega)
    rw [show ((i + 1 : Nat) : Int) = (i : Int) + 1 from by omega] at this
    exact this
theorem same_l0 (t : List S63) (hl : t.length ≤ 8) : ∀ d i k : Nat, i + d = t.length → d < k → noriaref11_SameSchema.l0 k t t (i : Int) = some true := by
  intro d
  induction d with
  | zero =>
    intro i k hi hk
    obtain ⟨k, rfl⟩ : ∃ m, k = m + 1 := ⟨k - 1, by omega⟩
    simp only [noriaref11_SameSchema.l0]
    rw [if_neg (by omega)]
  | succ d ih =>
    intro i k hi hk
    obtain ⟨k, rfl⟩ : ∃ m, k = m + 1 := ⟨k - 1, by omega⟩
    simp only [noriaref11_SameSchema.l0]
    rw [if_pos (by omega), if_pos (by omega), if_pos (by omega), if_neg (by simp), wr (x := (i : Int) + 1) (by omega) (by omega)]
    have := ih (i + 1) k (by omega) (by omega)
    rw [show ((i + 1 : Nat) : Int) = (i : Int) + 1 from by omega] at this
    exact this
end Go.Proofs.Ythflicjbclcbaaa.Num
