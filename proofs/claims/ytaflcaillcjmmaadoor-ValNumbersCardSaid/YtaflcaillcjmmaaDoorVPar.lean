import Derived.Test.YtaflcaillcjmmaaDoorVStr
import Derived.Test.YtaflcaillcjmmaaDoorVNum
import Derived.Test.YtaflcaillcjmmaaDoorPAllx4
import Derived.Test.YtaflcaillcjmmaaDoorPAllx4
import Derived.Test.YtaflcaillcjmmaaDoorPAllx3
/- A numeral read as a value. -/
set_option linter.unusedSimpArgs false
set_option linter.unusedVariables false
namespace Go.Proofs.YtaflcaillcjmmaaDoor.Num
open Go Go.RowKit Go.Proofs.YtaflcaillcjmmaaDoor.PAll Go.Proofs.YtaflcaillcjmmaaDoor.Help Go.Proofs.YtaflcaillcjmmaaDoorW.PrintWords Go.Proofs.YtaflcaillcjmmaaDoorW.PrintLast Go.Proofs.YtaflcaillcjmmaaDoorW.PrintMore
theorem itoa_cases (a : Int) : (a < 0 ∧ Lib.itoa a = 45 :: Lib.decDigits a.natAbs) ∨ (0 ≤ a ∧ Lib.itoa a = Lib.decDigits a.toNat) := by
  unfold Lib.itoa
  by_cases h : a < 0
  · exact .inl ⟨h, if_pos h⟩
  · exact .inr ⟨by omega, if_neg h⟩
theorem digit_ne {c : UInt8} (h : isD c) {b : UInt8} (hb : b.toNat < 48 ∨ 57 < b.toNat) : c ≠ b := by
  intro e
  subst e
  unfold isD at h
  omega
/-- The digits behind the sign. -/
theorem itoa_tail (a : Int) : (if (Lib.itoa a).head? = some 45 then (Lib.itoa a).drop 1 else Lib.itoa a) = Lib.decDigits a.natAbs := by
  rcases itoa_cases a with ⟨h, e⟩ | ⟨h, e⟩
  · rw [e]; simp
  · rw [e, show a.toNat = a.natAbs by omega]
    obtain ⟨c, l, e', hc⟩ := dec_cons a.natAbs
    rw [e', if_neg]
    simp only [List.head?_cons, Option.some.injEq]
    exact digit_ne hc (by decide)
theorem itoa_last (a : Int) : ∃ c, (Lib.itoa a).getLast? = some c ∧ isD c := by
  have key : ∀ u, ∃ c, (Lib.decDigits u).getLast? = some c ∧ isD c := by
    intro u
    obtain ⟨c, l, e, hc⟩ := dec_cons u
    cases hl : (Lib.decDigits u).getLast? with
    | none => rw [List.getLast?_eq_none_iff] at hl; rw [hl] at e; cases e
    | some d => exact ⟨d, rfl, dec_digits u d (List.mem_of_getLast? hl)⟩
  rcases itoa_cases a with ⟨h, e⟩ | ⟨h, e⟩
  · obtain ⟨c, h1, h2⟩ := key a.natAbs
    refine ⟨c, ?_, h2⟩
    rw [e, List.getLast?_cons, h1]
    rfl
  · rw [e]; exact key _
theorem itoa_head (a : Int) : ∃ c l, Lib.itoa a = c :: l ∧ (c = 45 ∨ isD c) := by
  rcases itoa_cases a with ⟨h, e⟩ | ⟨h, e⟩
  · exact ⟨_, _, e, .inl rfl⟩
  · obtain ⟨c, l, e', hc⟩ := dec_cons a.toNat
    exact ⟨c, l, e.trans e', .inr hc⟩
theorem text_num (k : Nat) (a : Int) (h0 : -9223372036854775808 ≤ a) (h1 : a ≤ 9223372036854775807) : val_Text.f k 1 a ⟨#[]⟩ (0, 0) = some (ofL (Lib.itoa a)) := by
  unfold val_Text.f strconv_FormatInt.f
  rw [if_pos rfl, if_pos ⟨rfl, h0, h1⟩]
  rfl
theorem trim_dec (u : Nat) (h : u < 18446744073709551616) (hl : (Lib.decDigits u).length ≤ 21) : strings_Trim.f (ofL (Lib.decDigits u)) ⟨#[48, 49, 50, 51, 52, 53, 54, 55, 56, 57]⟩ = some (ofL []) := by
  unfold strings_Trim.f
  rw [if_pos ⟨by rw [ofL_size]; omega, by decide, by decide⟩, ofL_data]
  rw [show ((⟨#[48, 49, 50, 51, 52, 53, 54, 55, 56, 57]⟩ : ByteArray).data.toList) = [48, 49, 50, 51, 52, 53, 54, 55, 56, 57] from rfl, trim_all (fun c hc => digit_in (dec_digits u c hc))]
theorem parse_num (k : Nat) (hk : 2 ≤ k) (a : Int) (h0 : -9223372036854775808 ≤ a) (h1 : a ≤ 9223372036854775807) : val_Parse.f k (ofL (Lib.itoa a)) = some (1, a, ⟨#[]⟩, (0, 0), 0) := by
  obtain ⟨k, rfl⟩ : ∃ m, k = m + 1 := ⟨k - 1, by omega⟩
  have hlen := Lib.itoa_length_le a h0 h1
  obtain ⟨c, l, e, hc⟩ := itoa_head a
  obtain ⟨d, hd, hd2⟩ := itoa_last a
  have hdl : (Lib.decDigits a.natAbs).length ≤ 21 := by
    have := itoa_tail a
    rw [← this]
    split
    · rw [List.length_drop]; omega
    · exact hlen
  have hn45 : Lib.itoa a ≠ [45] := by
    intro h
    rw [h] at hd
    simp at hd
    subst hd
    exact absurd hd2 (by unfold isD; decide)
  have hj : val_Parse.j0 (k + 1) (ofL (Lib.itoa a)) false = some (1, a, ⟨#[]⟩, (0, 0), 0) := by
    simp only [val_Parse.j0, strconv_ParseInt.f, Bool.false_eq_true, if_false]
    rw [if_pos ⟨by rw [ofL_size]; omega, trivial, trivial⟩, parse_itoa a h0 h1]
    rfl
  unfold val_Parse.f
  rw [ofL_toList, if_neg hn45, prefix_one, Option.bind_some]
  rw [if_neg (by
    rw [e]
    simp only [List.head?_cons, Option.some.injEq, decide_eq_true_eq]
    rcases hc with rfl | hc
    · decide
    · exact digit_ne hc (by decide))]
  rw [suffix_one _ _ (by omega), Option.bind_some]
  rw [if_neg (by
    rw [hd]
    simp only [Option.some.injEq, decide_eq_true_eq]
    exact digit_ne hd2 (by decide))]
  rw [trimPrefix_one, Option.bind_some, itoa_tail]
  obtain ⟨x, m, ex, hx⟩ := dec_cons a.natAbs
  have h45 : ((Lib.itoa a) == ([45, 48] : List UInt8)) = false := by
    rw [beq_eq_false_iff_ne]
    intro h
    rcases itoa_cases a with ⟨hneg, e2⟩ | ⟨hneg, e2⟩
    · rw [h] at e2
      have e3 := (List.cons.inj e2).2
      have := val_dec a.natAbs
      rw [← e3] at this
      simp [valOf] at this
      omega
    · rw [e2] at h
      have : isD 45 := dec_digits a.toNat 45 (by rw [h]; simp)
      exact absurd this (by unfold isD; decide)
  rw [ofL_toList, if_neg (by rw [ex]; simp), trim_dec _ (by omega) hdl, Option.bind_some, ofL_toList, if_pos rfl, h45]
  by_cases h2 : ((ofL (Lib.decDigits a.natAbs)).size : Int) > 1
  · rw [if_pos h2, if_pos (by omega)]
    have h3 := dec_head a.natAbs (by rw [ofL_size] at h2; omega)
    rw [if_neg]
    · exact hj
    · rw [ex, bt_ofL0]
      rw [ex] at h3
      intro h4
      apply h3
      rw [List.head?_cons]
      congr 1
      apply UInt8.toNat_inj.1
      simp
      omega
  · rw [if_neg h2]
    exact hj
end Go.Proofs.YtaflcaillcjmmaaDoor.Num
