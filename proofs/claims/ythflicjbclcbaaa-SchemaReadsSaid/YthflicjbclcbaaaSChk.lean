import Derived.Test.YthflicjbclcbaaaPAllx4
import Derived.Test.YthflicjbclcbaaaPAllx12
import Derived.Test.YthflicjbclcbaaaEnc
/- What the program's and the document's checks of columns compute. -/
set_option linter.unusedSimpArgs false
set_option linter.unusedVariables false
namespace Go.Proofs.Ythflicjbclcbaaa.Num
open Go Go.RowKit Go.Proofs.Ythflicjbclcbaaa.PAll Go.Proofs.YthflicjbclcbaaaW.PrintWords Go.Proofs.YthflicjbclcbaaaW.PrintLast Go.Proofs.YthflicjbclcbaaaW.PrintMore
def cv (x : S36) : S63 := ⟨x.f0, x.f1⟩
theorem rd_cv (s : List S36) {j : Nat} (h : j < s.length) : rd_T63 (s.map cv) (j : Int) = cv (rd_T36 s (j : Int)) := by
  unfold rd_T63 rd_T36
  simp [List.getD, h]
theorem rd_take36 (s : List S36) {i j : Nat} (h : j < i) : rd_T36 (s.take i) (j : Int) = rd_T36 s (j : Int) := by
  unfold rd_T36
  simp [List.getD, List.getElem?_take, h]
def allLow (s : ByteArray) : Nat → Nat → Bool
  | _, 0 => true
  | i, d + 1 => if bt s (i : Int) < 97 then false else if bt s (i : Int) > 122 then false else allLow s (i + 1) d
def goodB (s : ByteArray) : Bool := decide (1 ≤ s.size) && (decide (s.size ≤ 8) && allLow s 0 s.size)
theorem named_l0 (s : ByteArray) (hs : s.size ≤ 1000) : ∀ d i k : Nat, i + d = s.size → d < k →
    schema_named.l0 k s (s.size : Int) (i : Int) = some (allLow s i d && (decide (1 ≤ s.size) && decide (s.size ≤ 8))) := by
  intro d
  induction d with
  | zero =>
    intro i k hi hk
    obtain ⟨k, rfl⟩ : ∃ m, k = m + 1 := ⟨k - 1, by omega⟩
    simp only [schema_named.l0]
    rw [if_neg (by omega)]
    by_cases c : 1 ≤ s.size
    · rw [if_pos (by omega), show decide ((s.size : Int) ≤ 8) = decide (s.size ≤ 8) from decide_eq_decide.2 (by omega)]
      simp [allLow, c]
    · rw [if_neg (by omega)]
      simp [allLow, c]
  | succ d ih =>
    intro i k hi hk
    obtain ⟨k, rfl⟩ : ∃ m, k = m + 1 := ⟨k - 1, by omega⟩
    simp only [schema_named.l0]
    rw [if_pos (by omega), if_pos (by omega), if_pos (by omega)]
    by_cases c1 : bt s (i : Int) < 97
    · rw [if_pos c1]; simp [allLow, c1]
    · rw [if_neg c1]
      by_cases c2 : bt s (i : Int) > 122
      · rw [if_pos c2]; simp [allLow, c1, c2]
      · rw [if_neg c2, wr (x := (i : Int) + 1) (by omega) (by omega)]
        have := ih (i + 1) k (by omega) (by omega)
        rw [show ((i + 1 : Nat) : Int) = (i : Int) + 1 from by omega] at this
        rw [this]
        simp [allLow, c1, c2]
theorem named_f (s : ByteArray) (k : Nat) (hs : s.size ≤ 1000) (hk : s.size < k) : schema_named.f k s = some (goodB s) := by
  unfold schema_named.f goodB
  have := named_l0 s hs s.size 0 k (by omega) hk
  rw [show ((0 : Nat) : Int) = 0 from rfl] at this
  rw [this]
  congr 1
  cases allLow s 0 s.size <;> cases decide (1 ≤ s.size) <;> cases decide (s.size ≤ 8) <;> rfl
theorem good_l0 (s : ByteArray) (hs : s.size ≤ 1000) : ∀ d i k : Nat, i + d = s.size → d < k → noriaref11_GoodName.l0 k s (i : Int) = some (allLow s i d) := by
  intro d
  induction d with
  | zero =>
    intro i k hi hk
    obtain ⟨k, rfl⟩ : ∃ m, k = m + 1 := ⟨k - 1, by omega⟩
    simp only [noriaref11_GoodName.l0]
    rw [if_neg (by omega)]
    rfl
  | succ d ih =>
    intro i k hi hk
    obtain ⟨k, rfl⟩ : ∃ m, k = m + 1 := ⟨k - 1, by omega⟩
    simp only [noriaref11_GoodName.l0]
    rw [if_pos (by omega), if_pos (by omega)]
    by_cases c1 : bt s (i : Int) < 97
    · rw [if_pos c1]; simp [allLow, c1]
    · rw [if_neg c1]
      by_cases c2 : bt s (i : Int) > 122
      · rw [if_pos c2]; simp [allLow, c1, c2]
      · rw [if_neg c2, wr (x := (i : Int) + 1) (by omega) (by omega)]
        have := ih (i + 1) k (by omega) (by omega)
        rw [show ((i + 1 : Nat) : Int) = (i : Int) + 1 from by omega] at this
        rw [this]
        simp [allLow, c1, c2]
theorem good_f (s : ByteArray) (k : Nat) (hs : s.size ≤ 1000) (hk : s.size + 1 < k) : noriaref11_GoodName.f k s = some (goodB s) := by
  obtain ⟨k, rfl⟩ : ∃ m, k = m + 1 := ⟨k - 1, by omega⟩
  unfold noriaref11_GoodName.f goodB
  simp only [noriaref11_GoodName.j0]
  by_cases c1 : 1 ≤ s.size
  · rw [if_neg (by omega)]
    by_cases c2 : s.size ≤ 8
    · rw [show decide ((s.size : Int) > 8) = false from decide_eq_false (by omega), if_neg (by simp)]
      have := good_l0 s hs s.size 0 k (by omega) (by omega)
      rw [show ((0 : Nat) : Int) = 0 from rfl] at this
      rw [this]
      simp [c1, c2]
    · rw [show decide ((s.size : Int) > 8) = true from decide_eq_true (by omega), if_pos rfl]
      simp [c2]
  · rw [if_pos (by omega), if_pos trivial]
    simp [c1]
def twice (s : List S36) (i : Nat) : Nat → Nat → Bool
  | _, 0 => false
  | j, d + 1 => if (rd_T36 s (j : Int)).f0.toList = (rd_T36 s (i : Int)).f0.toList then true else twice s i (j + 1) d
theorem find_l0 (s : List S36) {i : Nat} (hi : i < s.length) (hl : s.length ≤ 1000) : ∀ d j k : Nat, j + d = i → d < k →
    ∃ x, schema_Find.l0 k (s.take i) ((rd_T36 s (i : Int)).f0) (j : Int) = some (x, twice s i j d) := by
  have hlen : (s.take i).length = i := by rw [List.length_take]; omega
  intro d
  induction d with
  | zero =>
    intro j k hj hk
    obtain ⟨k, rfl⟩ : ∃ m, k = m + 1 := ⟨k - 1, by omega⟩
    simp only [schema_Find.l0, hlen]
    rw [if_pos (by omega)]
    exact ⟨0, rfl⟩
  | succ d ih =>
    intro j k hj hk
    obtain ⟨k, rfl⟩ : ∃ m, k = m + 1 := ⟨k - 1, by omega⟩
    simp only [schema_Find.l0, hlen]
    rw [if_neg (by omega), if_pos (by omega), if_pos (by omega), rd_take36 s (by omega)]
    by_cases c : (rd_T36 s (j : Int)).f0.toList = (rd_T36 s (i : Int)).f0.toList
    · rw [if_pos c]
      exact ⟨(j : Int), by simp [twice, c]⟩
    · rw [if_neg c, wr (x := (j : Int) + 1) (by omega) (by omega)]
      obtain ⟨x, hx⟩ := ih (j + 1) k (by omega) (by omega)
      rw [show ((j + 1 : Nat) : Int) = (j : Int) + 1 from by omega] at hx
      exact ⟨x, by rw [hx]; simp [twice, c]⟩
def chk (s : List S36) : Nat → Nat → Int
  | _, 0 => 0
  | i, d + 1 => if goodB (rd_T36 s (i : Int)).f0 = true then (if twice s i 0 i = true then 7 else if (rd_T36 s (i : Int)).f1 < 1 then 6 else if (rd_T36 s (i : Int)).f1 > 3 then 6 else chk s (i + 1) d) else 3
theorem check_l0 (s : List S36) (hl : s.length ≤ 8) (hn : ∀ j, j < s.length → (rd_T36 s (j : Int)).f0.size ≤ 1000) : ∀ d i k : Nat, i + d = s.length → 1100 + d < k →
    schema_Check.l0 k s s (s.length : Int) (i : Int) = some (chk s i d) := by
  intro d
  induction d with
  | zero =>
    intro i k hi hk
    obtain ⟨k, rfl⟩ : ∃ m, k = m + 1 := ⟨k - 1, by omega⟩
    simp only [schema_Check.l0]
    rw [if_neg (by omega)]
    rfl
  | succ d ih =>
    intro i k hi hk
    obtain ⟨k, rfl⟩ : ∃ m, k = m + 1 := ⟨k - 1, by omega⟩
    simp only [schema_Check.l0]
    have hsz := hn i (by omega)
    rw [if_pos (by omega), if_pos (by omega), if_pos (by omega), named_f _ k hsz (by omega), Option.bind_some]
    by_cases c1 : goodB (rd_T36 s (i : Int)).f0 = true
    · rw [if_pos c1, if_pos (by omega), Int.toNat_natCast]
      obtain ⟨x, hx⟩ := find_l0 s (i := i) (by omega) (by omega) i 0 k (by omega) (by omega)
      rw [show ((0 : Nat) : Int) = 0 from rfl] at hx
      unfold schema_Find.f
      rw [hx, Option.bind_some]
      by_cases c2 : twice s i 0 i = true
      · rw [if_pos c2]; simp [chk, c1, c2]
      · rw [if_neg c2]
        by_cases c3 : (rd_T36 s (i : Int)).f1 < 1
        · rw [if_pos c3]; simp [chk, c1, c2, c3]
        · rw [if_neg c3]
          by_cases c4 : (rd_T36 s (i : Int)).f1 > 3
          · rw [if_pos c4]; simp [chk, c1, c2, c3, c4]
          · rw [if_neg c4, wr (x := (i : Int) + 1) (by omega) (by omega)]
            have := ih (i + 1) k (by omega) (by omega)
            rw [show ((i + 1 : Nat) : Int) = (i : Int) + 1 from by omega] at this
            rw [this]
            simp [chk, c1, c2, c3, c4]
    · rw [if_neg c1]; simp [chk, c1]
theorem ccheck_l1 (s : List S36) (hl : s.length ≤ 8) {i d : Nat} (hi : i + (d + 1) = s.length) (H : ∀ k, 1100 + 20 * d < k → noriaref11_CheckSchema.l0 k (s.map cv) ((i + 1 : Nat) : Int) = some (chk s (i + 1) d)) :
    ∀ e j k : Nat, j + e = i → 1100 + 20 * d + e + 1 < k → noriaref11_CheckSchema.l1 k (s.map cv) (i : Int) (j : Int) =
      some (if twice s i j e = true then 7 else if (rd_T36 s (i : Int)).f1 < 1 then 6 else if (rd_T36 s (i : Int)).f1 > 3 then 6 else chk s (i + 1) d) := by
  have hml : (s.map cv).length = s.length := List.length_map _
  have hri : rd_T63 (s.map cv) (i : Int) = cv (rd_T36 s (i : Int)) := rd_cv s (by omega)
  intro e
  induction e with
  | zero =>
    intro j k hj hk
    obtain ⟨k, rfl⟩ : ∃ m, k = m + 1 := ⟨k - 1, by omega⟩
    simp only [noriaref11_CheckSchema.l1, hml, hri, cv]
    rw [if_neg (by omega), if_pos (by omega), if_pos (by omega)]
    by_cases c3 : (rd_T36 s (i : Int)).f1 < 1
    · rw [if_pos c3]; simp [twice, c3]
    · rw [if_neg c3]
      by_cases c4 : (rd_T36 s (i : Int)).f1 > 3
      · rw [if_pos c4]; simp [twice, c3, c4]
      · rw [if_neg c4, wr (x := (i : Int) + 1) (by omega) (by omega)]
        have := H k (by omega)
        rw [show ((i + 1 : Nat) : Int) = (i : Int) + 1 from by omega] at this
        rw [this]
        simp [twice, c3, c4]
  | succ e ih =>
    intro j k hj hk
    obtain ⟨k, rfl⟩ : ∃ m, k = m + 1 := ⟨k - 1, by omega⟩
    have hrj : rd_T63 (s.map cv) (j : Int) = cv (rd_T36 s (j : Int)) := rd_cv s (by omega)
    simp only [noriaref11_CheckSchema.l1, hml, hri, hrj, cv]
    rw [if_pos (by omega), if_pos (by omega), if_pos (by omega), if_pos (by omega), if_pos (by omega)]
    by_cases c : (rd_T36 s (j : Int)).f0.toList = (rd_T36 s (i : Int)).f0.toList
    · rw [if_pos c]; simp [twice, c]
    · rw [if_neg c, wr (x := (j : Int) + 1) (by omega) (by omega)]
      have := ih (j + 1) k (by omega) (by omega)
      rw [show ((j + 1 : Nat) : Int) = (j : Int) + 1 from by omega] at this
      rw [this]
      simp [twice, c]
theorem ccheck_l0 (s : List S36) (hl : s.length ≤ 8) (hn : ∀ j, j < s.length → (rd_T36 s (j : Int)).f0.size ≤ 1000) : ∀ d i k : Nat, i + d = s.length → 1100 + 20 * d < k →
    noriaref11_CheckSchema.l0 k (s.map cv) (i : Int) = some (chk s i d) := by
  have hml : (s.map cv).length = s.length := List.length_map _
  intro d
  induction d with
  | zero =>
    intro i k hi hk
    obtain ⟨k, rfl⟩ : ∃ m, k = m + 1 := ⟨k - 1, by omega⟩
    simp only [noriaref11_CheckSchema.l0, hml]
    rw [if_neg (by omega)]
    rfl
  | succ d ih =>
    intro i k hi hk
    obtain ⟨k, rfl⟩ : ∃ m, k = m + 1 := ⟨k - 1, by omega⟩
    have hsz := hn i (by omega)
    have hri : rd_T63 (s.map cv) (i : Int) = cv (rd_T36 s (i : Int)) := rd_cv s (by omega)
    simp only [noriaref11_CheckSchema.l0, hml, hri, cv]
    rw [if_pos (by omega), if_pos (by omega), good_f _ k hsz (by omega), Option.bind_some]
    by_cases c1 : goodB (rd_T36 s (i : Int)).f0 = true
    · rw [if_pos c1]
      have := ccheck_l1 s hl hi (fun k hk => ih (i + 1) k (by omega) hk) i 0 k (by omega) (by omega)
      rw [show ((0 : Nat) : Int) = 0 from rfl] at this
      rw [this]
      simp [chk, c1]
    · rw [if_neg c1]; simp [chk, c1]
/-- The program's check and the document's are one. -/
theorem checks (s : List S36) (hl : s.length ≤ 8) (hn : ∀ j, j < s.length → (rd_T36 s (j : Int)).f0.size ≤ 1000) : ∃ c : Int, ∀ k, 1300 < k →
    schema_Check.f k s = some c ∧ noriaref11_CheckSchema.f k (s.map cv) = some c := by
  have hml : (s.map cv).length = s.length := List.length_map _
  by_cases h1 : s.length < 1
  · refine ⟨4, fun k hk => ?_⟩
    obtain ⟨k, rfl⟩ : ∃ m, k = m + 1 := ⟨k - 1, by omega⟩
    unfold schema_Check.f noriaref11_CheckSchema.f
    rw [hml, if_pos (by omega), if_pos (by omega)]
    simp only [schema_Check.j0, noriaref11_CheckSchema.j0, if_true, and_self]
  · refine ⟨chk s 0 s.length, fun k hk => ?_⟩
    obtain ⟨k, rfl⟩ : ∃ m, k = m + 1 := ⟨k - 1, by omega⟩
    unfold schema_Check.f noriaref11_CheckSchema.f
    rw [hml, if_neg (by omega), if_neg (by omega), show decide ((s.length : Int) > 8) = false from decide_eq_false (by omega)]
    simp only [schema_Check.j0, noriaref11_CheckSchema.j0]
    rw [if_neg (by simp), if_neg (by simp)]
    have a := check_l0 s hl hn s.length 0 k (by omega) (by omega)
    have b := ccheck_l0 s hl hn s.length 0 k (by omega) (by omega)
    rw [show ((0 : Nat) : Int) = 0 from rfl] at a b
    exact ⟨a, b⟩
end Go.Proofs.Ythflicjbclcbaaa.Num
