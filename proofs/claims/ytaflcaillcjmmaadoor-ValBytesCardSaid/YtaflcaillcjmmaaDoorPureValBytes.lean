/- Bytes in words and back; their order; how long they may be; no conditions. -/
import Derived.Test.YtaflcaillcjmmaaDoorVKnown
import Derived.Test.YtaflcaillcjmmaaDoorVWrd
import Derived.Test.YtaflcaillcjmmaaDoorPAllx9
set_option linter.unusedSimpArgs false
set_option linter.unusedVariables false
namespace Go.Proofs.YtaflcaillcjmmaaDoor.Pure
open Go Go.RowKit Go.Proofs.YtaflcaillcjmmaaDoor.PAll Go.Proofs.YtaflcaillcjmmaaDoor.Num Go.Proofs.YtaflcaillcjmmaaDoor.Help Go.Proofs.YtaflcaillcjmmaaDoorW.PrintWords Go.Proofs.YtaflcaillcjmmaaDoorW.PrintLast Go.Proofs.YtaflcaillcjmmaaDoorW.PrintMore
theorem good00 : point_Good.f (0, 0) = some true := by decide +kernel
theorem check_str (k : Nat) (hk : 3 ≤ k) (s : ByteArray) : val_Check.f k 2 0 s (0, 0) = some (if (s.size : Int) > 255 then 4 else 0) := by
  obtain ⟨k, rfl⟩ : ∃ m, k = m + 2 := ⟨k - 2, by omega⟩
  unfold val_Check.f
  rw [if_neg (by decide)]
  simp only [val_Check.j0, val_own.f, val_Check.j1, show decide ((2 : Int) > 3) = false from by decide, Bool.false_eq_true, if_false, if_true, show ((2 : Int) = 1) = False from by simp, Option.bind_some, c00, beq_self_eq_true, Bool.not_true, Bool.or_self, good00]
  split <;> rfl
theorem ValBytes : norialaw3_ValBytes.Pure := by
  intro a b ha hb
  refine ⟨2000, ?_⟩
  unfold norialaw3_ValBytes.f
  rw [known_k (by omega)]
  simp only [Option.bind_some, if_true]
  have long : norialaw3_ValBytes.j0 2000 a b true = some true := by
    simp only [norialaw3_ValBytes.j0, norialaw3_S.f, if_true, Option.bind_some]
    rw [check_str _ (by omega), Option.bind_some]
    by_cases h : (a.size : Int) > 255
    · rw [if_pos h]
      have : decide ((a.size : Int) ≤ 255) = false := decide_eq_false (by omega)
      rw [this]
      rfl
    · rw [if_neg h]
      have : decide ((a.size : Int) ≤ 255) = true := decide_eq_true (by omega)
      rw [this]
      rfl
  by_cases h1 : (a.size : Int) > 255
  · rw [if_pos h1]; exact long
  · rw [if_neg h1]
    by_cases h2 : (b.size : Int) > 255
    · rw [decide_eq_true h2]; exact long
    · rw [decide_eq_false h2]
      obtain ⟨L, rfl⟩ : ∃ L, a = ofL L := ⟨_, (toList_ofL a).symm⟩
      obtain ⟨M, rfl⟩ : ∃ M, b = ofL M := ⟨_, (toList_ofL b).symm⟩
      rw [ofL_size] at h1 h2
      have fin : ∀ x9 : Int, x9 = (if Op.bytesLess L M = true then -1 else if Op.bytesLess M L = true then 1 else 0) →
          norialaw3_ValBytes.j2 1998 (ofL L) (ofL M) (ofL (34 :: hexL L)) (ofL (34 :: hexL M)) 0 x9 2 0 (ofL L) (0, 0) = some true := by
        intro x9 h9
        simp only [norialaw3_ValBytes.j2, norialaw3_S.f, Option.bind_some]
        rw [wr (x := 2 * ((ofL L).size : Int)) (by rw [ofL_size]; omega) (by rw [ofL_size]; omega), wr (x := 1 + 2 * ((ofL L).size : Int)) (by rw [ofL_size]; omega) (by rw [ofL_size]; omega)]
        rw [if_pos (by simp only [ofL_size, List.length_cons, hexL_length]; omega), if_pos (by decide), if_pos (by simp only [ofL_size, List.length_cons]; omega)]
        rw [if_pos (by rw [ofL_extract, ofL_toList]; rfl), if_pos trivial]
        rw [if_pos (by simp [c00])]
        rw [compare_str _ (by omega), Option.bind_some]
        simp only [ofL_toList]
        rw [if_pos h9.symm]
        have e : Op.bytesLess (34 :: hexL L) (34 :: hexL M) = Op.bytesLess (hexL L) (hexL M) := by
          have : decide ((34 : UInt8) < 34) = false := by decide
          simp [Op.bytesLess, this]
        rw [e, hex_less]
        simp
      have fin1 : ∀ x9 : Int, (if Op.bytesLess M L = true then (1 : Int) else x9) = (if Op.bytesLess L M = true then -1 else if Op.bytesLess M L = true then 1 else 0) →
          norialaw3_ValBytes.j1 1999 (ofL L) (ofL M) (ofL (34 :: hexL L)) (ofL (34 :: hexL M)) 0 x9 2 0 (ofL L) (0, 0) = some true := by
        intro x9 h9
        simp only [norialaw3_ValBytes.j1, ofL_toList]
        by_cases c : Op.bytesLess M L = true
        · rw [if_pos c] at h9 ⊢
          exact fin 1 h9
        · rw [if_neg c] at h9 ⊢
          exact fin x9 h9
      have flip := bytesLess_flip L M
      simp only [norialaw3_ValBytes.j0, norialaw3_S.f, Bool.false_eq_true, if_false, Option.bind_some]
      rw [text_str _ (by omega) L (by omega), text_str _ (by omega) M (by omega)]
      simp only [Option.bind_some]
      rw [parse_str _ (by omega) L (by omega)]
      simp only [Option.bind_some, ofL_toList]
      by_cases c : Op.bytesLess L M = true
      · rw [if_pos c]
        apply fin1
        rw [c] at flip
        simp at flip
        simp [c, flip]
      · rw [if_neg c]
        apply fin1
        rw [if_neg c]
end Go.Proofs.YtaflcaillcjmmaaDoor.Pure
