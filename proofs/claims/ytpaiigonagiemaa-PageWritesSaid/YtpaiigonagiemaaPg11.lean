/- page: what the reference's Unwrap computes; what is opened is wrapped so again. -/
import Derived.Test.YtpaiigonagiemaaPg8
import Derived.Test.YtpaiigonagiemaaPg9
import Derived.Test.YtpaiigonagiemaaNRGet
namespace Go.Proofs.Ytpaiigonagiemaa.Num
open Go Go.RowKit Go.Proofs.Ytpaiigonagiemaa.PAll Go.Proofs.YtpaiigonagiemaaW.PrintWords Go.Proofs.YtpaiigonagiemaaW.PrintLast Go.Proofs.YtpaiigonagiemaaW.PrintMore
set_option linter.unusedVariables false
set_option linter.unusedSimpArgs false
theorem runwrap_l0 (l : List Int) (f v : Nat) (hfv : f + v ≤ l.length) (hl : l.length ≤ 100000) : ∀ (d i k : Nat), i + d = l.length → d < k →
    noriaref18_Unwrap.l0 k l (v : Int) (f : Int) (i : Int) = if (l.drop i).any (· != 0) then some ([], 12) else some ((l.take (f + v)).drop f, 0)
  | 0, i, k, hi, hk => by
    obtain ⟨k, rfl⟩ : ∃ m, k = m + 1 := ⟨k - 1, by omega⟩
    unfold noriaref18_Unwrap.l0
    rw [if_neg (by omega), Option.bind_some, if_pos (by omega), wr (x := (v : Int)) (by omega) (by omega), wr (by omega) (by omega), if_pos (by omega), if_pos (by omega), List.nil_append]
    rw [show ((f : Int) + (v : Int)).toNat = f + v from by omega, Int.toNat_natCast]
    rw [if_pos (by simp only [List.length_nil, List.length_drop, List.length_take]; omega)]
    rw [List.drop_of_length_le (by omega : l.length ≤ i)]
    rfl
  | d + 1, i, k, hi, hk => by
    obtain ⟨k, rfl⟩ : ∃ m, k = m + 1 := ⟨k - 1, by omega⟩
    have hlt : i < l.length := by omega
    have hr : rd l (i : Int) = l[i] := by
      unfold rd
      rw [Int.toNat_natCast, List.getD_eq_getElem?_getD, List.getElem?_eq_getElem hlt]
      rfl
    have hd : l.drop i = l[i] :: l.drop (i + 1) := List.drop_eq_getElem_cons hlt
    unfold noriaref18_Unwrap.l0
    rw [if_pos (by omega), if_pos (by omega), hr, hd]
    by_cases h0 : l[i] = 0
    · rw [if_pos h0, wr (by omega) (by omega)]
      have := runwrap_l0 l f v hfv hl d (i + 1) k (by omega) (by omega)
      rw [show (i : Int) + 1 = ((i + 1 : Nat) : Int) from by omega, this, h0]
      rfl
    · rw [if_neg h0, if_pos (by rw [List.any_cons, show (l[i] != 0) = true from bne_iff_ne.2 h0]; rfl)]
theorem runwrap_eq {b : List Int} (hB : isB b) (hl : b.length ≤ 100000) (k : Nat) (hk : 2000000 ≤ k) : noriaref18_Unwrap.f k b = some (unwrapB b) := by
  obtain ⟨k, rfl⟩ : ∃ m, k = m + 1 := ⟨k - 1, by omega⟩
  unfold noriaref18_Unwrap.f unwrapB
  by_cases h0 : b.length = 0
  · rw [if_pos (by omega), if_pos (.inl h0)]
    rw [noriaref18_Unwrap.j0]
    rw [if_pos rfl]
  · rw [if_neg (by omega)]
    by_cases hm : b.length % 64 = 0
    · have e : (((b.length : Int) % 64) != 0) = false := by rw [bne_eq_false_iff_eq]; omega
      rw [e, if_neg (by omega)]
      rw [noriaref18_Unwrap.j0]
      have t4 : (4 : Int).toNat = 4 := rfl
      rw [if_neg (by decide : ¬ (false = true)), rget4_k (k := k) (by omega), get4_eq k hB (by omega) (by omega) (by omega) (by omega), Option.bind_some, if_pos (by omega)]
      rw [rsum_eq k (isB_drop hB 4) (by rw [List.length_drop]; omega) (by rw [List.length_drop]; omega), Option.bind_some]
      by_cases hs : (g4 b 0).1 = crc (b.drop 4)
      · rw [if_pos hs, rget_eq k hB (by omega) (by omega) (by omega) (by omega), Option.bind_some, t4]
        obtain ⟨U, N, e, hu⟩ : ∃ U N e, gd 0 0 (b.drop 4) = (U, N, e) := ⟨_, _, _, rfl⟩
        rw [hu]
        obtain ⟨k, rfl⟩ : ∃ m, k = m + 1 := ⟨k - 1, by omega⟩
        by_cases he : e = 0
        · subst he
          obtain ⟨v, rfl, rfl, hvl, hvt, hv64⟩ := gd_spec (isB_drop hB 4) hu
          by_cases h8 : 8192 < v
          · simp only
            rw [if_pos trivial, if_pos (by omega), if_pos (.inr (.inr (.inl (by omega))))]
            rw [noriaref18_Unwrap.j1]
            rw [if_pos rfl]
          · have hps := psz_fits v
            have hlen := enc_len2 (n := v) (by omega)
            simp only
            rw [if_pos trivial, if_neg (by omega), wr (x := (v : Int)) (by omega) (by omega), rsize_eq (by omega) (k + 1) (by omega), Option.bind_some, wr (x := (b.length : Int) / 64) (by omega) (by omega)]
            rw [noriaref18_Unwrap.j1]
            by_cases hz : psz v * 64 = b.length
            · rw [show (((psz v : Nat) : Int) != (b.length : Int) / 64) = false from by rw [bne_eq_false_iff_eq]; omega, if_neg (by decide), if_neg (by simp [hs, hz]; omega)]
              rw [wr (x := (v : Int)) (by omega) (by omega), wr (x := 4 + (((enc v).length : Nat) : Int)) (by omega) (by omega), wr (by omega) (by omega)]
              rw [show 4 + (((enc v).length : Nat) : Int) + (v : Int) = ((4 + (enc v).length + v : Nat) : Int) from by omega, show 4 + (((enc v).length : Nat) : Int) = ((4 + (enc v).length : Nat) : Int) from by omega]
              rw [runwrap_l0 b (4 + (enc v).length) v (by omega) hl (b.length - (4 + (enc v).length + v)) (4 + (enc v).length + v) k (by omega) (by omega)]
              rw [Int.toNat_natCast, Int.toNat_natCast]
              split <;> rfl
            · rw [show (((psz v : Nat) : Int) != (b.length : Int) / 64) = true from by rw [bne_iff_ne]; omega, if_pos rfl, if_pos (.inr (.inr (.inr (by rw [Int.toNat_natCast]; exact hz))))]
        · simp only
          rw [if_neg he, if_pos (.inr (.inl he))]
          rw [noriaref18_Unwrap.j1]
          rw [if_pos rfl]
      · rw [if_neg hs, if_pos (.inl hs)]
    · have e : (((b.length : Int) % 64) != 0) = true := by rw [bne_iff_ne]; omega
      rw [e, if_pos (.inr hm)]
      rw [noriaref18_Unwrap.j0]
      rw [if_pos rfl]
theorem b4_g4 {b : List Int} (hB : isB b) (h : 4 ≤ b.length) : b4 (g4 b 0).1 = b.take 4 := by
  match b, h with
  | a :: b1 :: c :: d :: l, _ =>
    have ha := hB a (by simp)
    have hb := hB b1 (by simp)
    have hc := hB c (by simp)
    have hd := hB d (by simp)
    rw [show a :: b1 :: c :: d :: l = [a, b1, c, d] ++ l from rfl, g4_four ha hb hc hd]
    show b4 _ = [a, b1, c, d]
    unfold b4
    have e0 : (a + 256 * b1 + 65536 * c + 16777216 * d) % 256 = a := by omega
    have e1 : (a + 256 * b1 + 65536 * c + 16777216 * d) / 256 % 256 = b1 := by omega
    have e2 : (a + 256 * b1 + 65536 * c + 16777216 * d) / 65536 % 256 = c := by omega
    have e3 : (a + 256 * b1 + 65536 * c + 16777216 * d) / 16777216 % 256 = d := by omega
    rw [e0, e1, e2, e3]
/-- What is no page. -/
theorem unwrapB_or (b : List Int) : unwrapB b = ([], 12) ∨ (unwrapB b).2 = 0 := by
  unfold unwrapB
  split
  · exact .inl rfl
  · split
    · exact .inl rfl
    · split
      · exact .inl rfl
      · exact .inr rfl
/-- What is opened is wrapped so again. -/
theorem wrap_unwrap {b x : List Int} (hB : isB b) (h : unwrapB b = (x, 0)) : wrapB x = b ∧ x.length ≤ 8192 ∧ isB x := by
  unfold unwrapB at h
  split at h
  · cases h
  rename_i h1
  split at h
  · cases h
  rename_i h2
  split at h
  · cases h
  rename_i h3
  have hn0 : ¬ b.length = 0 := fun q => h1 (.inl q)
  have hm : b.length % 64 = 0 := Decidable.byContradiction fun q => h1 (.inr q)
  have hs : (g4 b 0).1 = crc (b.drop 4) := Decidable.byContradiction fun q => h2 (.inl q)
  have he : (gd 0 0 (b.drop 4)).2.2 = 0 := Decidable.byContradiction fun q => h2 (.inr (.inl q))
  have h8 : ¬ 8192 < (gd 0 0 (b.drop 4)).1 := fun q => h2 (.inr (.inr (.inl q)))
  have hz : psz (gd 0 0 (b.drop 4)).1.toNat * 64 = b.length := Decidable.byContradiction fun q => h2 (.inr (.inr (.inr q)))
  obtain ⟨U, N, e, hu⟩ : ∃ U N e, gd 0 0 (b.drop 4) = (U, N, e) := ⟨_, _, _, rfl⟩
  rw [hu] at he h8 hz h3 h
  simp only at he h8 hz h3 h
  subst he
  obtain ⟨v, rfl, rfl, hvl, hvt, hv64⟩ := gd_spec (isB_drop hB 4) hu
  simp only [Int.toNat_natCast] at hz h3 h
  have hps := psz_fits v
  have hx : x = (b.take (4 + (enc v).length + v)).drop (4 + (enc v).length) := (congrArg (·.1) h).symm
  have hxl : x.length = v := by rw [hx, List.length_drop, List.length_take]; omega
  have hxB : isB x := by rw [hx]; exact isB_drop (isB_take hB _) _
  have hzero : b.drop (4 + (enc v).length + v) = List.replicate (psz v * 64 - 4 - ((enc v).length + v)) 0 := by
    rw [List.eq_replicate_iff]
    refine ⟨by rw [List.length_drop]; omega, fun y hy => ?_⟩
    have h4 : (b.drop (4 + (enc v).length + v)).any (· != 0) = false := by simpa using h3
    have := (List.any_eq_false.1 h4) y hy
    simpa using this
  have hX : wrapX x = b.drop 4 := by
    unfold wrapX
    rw [hxl, ← hzero]
    have e0 : enc v ++ (b.drop 4).drop (enc v).length = b.drop 4 := by
      have := List.take_append_drop (enc v).length (b.drop 4)
      rwa [hvt] at this
    have e1 : b.drop (4 + (enc v).length + v) = ((b.drop 4).drop (enc v).length).drop v := by
      rw [List.drop_drop, List.drop_drop]
      first | rfl | (congr 1; omega)
    have e2 : x = ((b.drop 4).drop (enc v).length).take v := by
      rw [hx, List.drop_take, List.drop_drop, show 4 + (enc v).length + v - (4 + (enc v).length) = v from by omega]
    rw [e1, e2, List.append_assoc, List.take_append_drop, e0]
  refine ⟨?_, by omega, hxB⟩
  unfold wrapB
  rw [hX, ← hs, b4_g4 hB (by omega), List.take_append_drop]
end Go.Proofs.Ytpaiigonagiemaa.Num
