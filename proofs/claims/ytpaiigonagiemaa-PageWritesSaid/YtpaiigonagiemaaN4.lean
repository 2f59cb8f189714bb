import Derived.Test.YtpaiigonagiemaaNBits
import Derived.Test.YtpaiigonagiemaaNGet
import Derived.Test.YtpaiigonagiemaaNPut
/- Four bytes: what num.Put4 and num.Get4 compute. -/
set_option linter.unusedSimpArgs false
set_option linter.unusedVariables false
namespace Go.Proofs.Ytpaiigonagiemaa.Num
open Go Go.RowKit Go.Proofs.Ytpaiigonagiemaa.PAll Go.Proofs.YtpaiigonagiemaaW.PrintWords Go.Proofs.YtpaiigonagiemaaW.PrintLast Go.Proofs.YtpaiigonagiemaaW.PrintMore
def b4 (n : Int) : List Int := [n % 256, n / 256 % 256, n / 65536 % 256, n / 16777216 % 256]
theorem b4_isB (n : Int) : isB (b4 n) := by
  intro x hx
  simp [b4] at hx
  omega
theorem b4_length (n : Int) : (b4 n).length = 4 := rfl
def g4 (l : List Int) (a : Int) : Int × Int × Int :=
  if a < 0 ∨ (l.length : Int) < a then (0, 0, 1) else if (l.length : Int) - a < 4 then (0, 0, 5) else
    (rd l a + 256 * rd l (a + 1) + 65536 * rd l (a + 2) + 16777216 * rd l (a + 3), 4, 0)
theorem rd_B {l : List Int} (hl : isB l) {a : Int} (h0 : 0 ≤ a) (h1 : a < l.length) : 0 ≤ rd l a ∧ rd l a ≤ 255 := by
  have := hl _ (rd_mem (l := l) (j := a.toNat) (by omega))
  rwa [Int.toNat_of_nonneg h0] at this
theorem get4_eq {l : List Int} {a : Int} (k : Nat) (hl : isB l) (hL : l.length ≤ 70368744177664) (ha : -9223372036854775808 ≤ a) (ha2 : a ≤ 9223372036854775807) (hk : 1 ≤ k) : num_Get4.f k l a = some (g4 l a) := by
  obtain ⟨k, rfl⟩ : ∃ m, k = m + 1 := ⟨k - 1, by omega⟩
  unfold num_Get4.f g4
  simp only [num_Get4.j0]
  by_cases c : a < 0
  · rw [if_pos c, if_pos trivial, if_pos (.inl c)]
  · rw [if_neg c]
    by_cases c2 : (l.length : Int) < a
    · rw [if_pos (by simpa using c2), if_pos (.inr c2)]
    · rw [if_neg (by simpa using c2), wr (x := (l.length : Int) - a) (by omega) (by omega)]
      by_cases c3 : (l.length : Int) - a < 4
      · rw [if_pos c3, if_neg (by omega), if_pos c3]
      · rw [if_neg c3, wr (x := a + 1) (by omega) (by omega), wr (x := a + 2) (by omega) (by omega), wr (x := a + 3) (by omega) (by omega)]
        rw [if_pos (by omega), if_pos (by omega), if_pos (by omega), if_pos (by omega), if_pos (by omega), if_pos (by omega), if_pos (by omega), if_pos (by omega)]
        rw [if_neg (by omega), if_neg c3]
        have h1 := rd_B hl (a := a) (by omega) (by omega)
        have h2 := rd_B hl (a := a + 1) (by omega) (by omega)
        have h3 := rd_B hl (a := a + 2) (by omega) (by omega)
        have h4 := rd_B hl (a := a + 3) (by omega) (by omega)
        rw [le4 h1.1 h1.2 h2.1 h2.2 h3.1 h3.2 h4.1 h4.2]
theorem put4_eq {l : List Int} {n : Int} (hl : l.length ≤ 70368744177664) : num_Put4.f l n = some (l ++ b4 n) := by
  unfold num_Put4.f
  rw [clone_eq (by omega)]
  simp only [Option.bind_some]
  rw [if_pos (by simp; omega)]
  rfl
theorem rd_append_right {l m : List Int} {j : Nat} : rd (l ++ m) ((l.length + j : Nat) : Int) = rd m (j : Int) := by
  unfold rd
  simp only [Int.toNat_natCast, List.getD_eq_getElem?_getD]
  rw [List.getElem?_append_right (by omega)]
  congr 2
  omega
theorem g4_put4 (l m : List Int) {n : Int} (h0 : 0 ≤ n) (h1 : n ≤ 4294967295) : g4 (l ++ b4 n ++ m) l.length = (n, 4, 0) := by
  unfold g4
  rw [if_neg (by simp; omega), if_neg (by simp [b4]; omega)]
  rw [List.append_assoc]
  have e0 := rd_append_right (l := l) (m := b4 n ++ m) (j := 0)
  have e1 := rd_append_right (l := l) (m := b4 n ++ m) (j := 1)
  have e2 := rd_append_right (l := l) (m := b4 n ++ m) (j := 2)
  have e3 := rd_append_right (l := l) (m := b4 n ++ m) (j := 3)
  rw [show ((l.length + 0 : Nat) : Int) = (l.length : Int) from by omega] at e0
  rw [show ((l.length + 1 : Nat) : Int) = (l.length : Int) + 1 from by omega] at e1
  rw [show ((l.length + 2 : Nat) : Int) = (l.length : Int) + 2 from by omega] at e2
  rw [show ((l.length + 3 : Nat) : Int) = (l.length : Int) + 3 from by omega] at e3
  rw [e0, e1, e2, e3]
  have r0 : rd (b4 n ++ m) ((0 : Nat) : Int) = n % 256 := rfl
  have r1 : rd (b4 n ++ m) ((1 : Nat) : Int) = n / 256 % 256 := rfl
  have r2 : rd (b4 n ++ m) ((2 : Nat) : Int) = n / 65536 % 256 := rfl
  have r3 : rd (b4 n ++ m) ((3 : Nat) : Int) = n / 16777216 % 256 := rfl
  rw [r0, r1, r2, r3]
  congr 1
  omega
end Go.Proofs.Ytpaiigonagiemaa.Num
