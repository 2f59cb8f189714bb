/- A run that claims more than may be is refused, however great its number; no conditions. -/
import Derived.Test.YtokekjbodkjjpaaRRun
set_option linter.unusedSimpArgs false
set_option linter.unusedVariables false
namespace Go.Proofs.Ytokekjbodkjjpaa.Pure
open Go Go.RowKit Go.Proofs.Ytokekjbodkjjpaa.PAll Go.Proofs.YtokekjbodkjjpaaW.PrintWords Go.Proofs.YtokekjbodkjjpaaW.PrintLast Go.Proofs.YtokekjbodkjjpaaW.PrintMore Go.Proofs.Ytokekjbodkjjpaa.Num
theorem far_get {n m k : Nat} {v : Int} (hn : n < 18446744073709551616) (hv : 0 ≤ v ∧ v ≤ 18446744073709551615) (hm : m ≤ 1000) (hk : 100 ≤ k) :
    rle_Get.f (k + 2) (enc n ++ enc v.toNat) m = some (if n = 0 then ([], 2) else if m < n then ([], 4) else (List.replicate n v, 0)) := by
  have e1 := enc_len10 hn
  have e2 := enc_len10 (u := v.toNat) (by omega)
  have hL : (enc n ++ enc v.toNat).length ≤ 100 := by rw [List.length_append]; omega
  unfold rle_Get.f
  have h := rget_step (B := enc n ++ enc v.toNat) (pre := []) (rest := []) (acc := []) (most := (m : Int)) (k := k + 1) (by simp) (isB_append (enc_isB _) (enc_isB _)) (by omega) hn hv (by simp) (by omega)
  rw [show (([] : List Int).length : Int) = 0 from rfl] at h
  rw [if_neg (by omega), h]
  simp only [rle_Get.j1]
  by_cases c : n = 0
  · rw [if_pos (by simp [c]), if_pos c]
  · rw [if_neg (by simp [c]), if_neg c, show (m : Int) - (([] : List Int).length : Int) = (m : Int) from by simp, wr (x := (m : Int)) (by omega) (by omega), wu (x := (m : Int)) (by omega) (by omega)]
    by_cases c2 : m < n
    · rw [if_pos (by omega), if_pos c2]
    · rw [if_neg (by omega), if_neg c2, wr (by omega) (by omega), repeat_eq (by omega) (by omega), Option.bind_some, if_pos (by rw [List.length_replicate]; simp; omega)]
      obtain ⟨k, rfl⟩ : ∃ m, k = m + 1 := ⟨k - 1, by omega⟩
      simp only [rle_Get.l0, List.nil_append]
      rw [if_neg (by omega)]
theorem RleFar : norialaw5_RleFar.Pure := by
  intro n v m hn hv hm
  have hn := wf_u64 hn
  have hv := wf_u64 hv
  have hm := wf_u16 hm
  obtain ⟨n, rfl⟩ := Int.eq_ofNat_of_zero_le hn.1
  obtain ⟨m, rfl⟩ := Int.eq_ofNat_of_zero_le hm.1
  obtain ⟨k, hk⟩ : ∃ k, 1000 ≤ k := ⟨1000, Nat.le_refl _⟩
  refine ⟨k + 2, ?_⟩
  have e1 := enc_len10 (u := n) (by omega)
  have hmm : Int.tmod (m : Int) 500 = ((m % 500 : Nat) : Int) := rfl
  unfold norialaw5_RleFar.f
  rw [known_k (by omega), Option.bind_some, if_pos rfl, put_eq (k + 2) hn.1 hn.2 (by simp) (by omega), Option.bind_some, List.nil_append, Int.toNat_natCast, put_eq (k + 2) hv.1 hv.2 (by omega) (by omega), Option.bind_some, hmm, wr (x := ((m % 500 : Nat) : Int)) (by omega) (by omega), wu (x := ((m % 500 : Nat) : Int)) (by omega) (by omega),
    far_get (by omega) hv (by omega) (by omega), Option.bind_some]
  by_cases c : n = 0
  · rw [if_pos c, if_pos (by omega), if_pos rfl]
    rfl
  · rw [if_neg c, if_neg (by omega)]
    by_cases c2 : m % 500 < n
    · rw [if_pos c2, if_pos (by omega), if_pos rfl]
      rfl
    · rw [if_neg c2, if_neg (by omega), if_pos rfl]
      have hr := rd_rep (pre := []) (t := []) (v := v) (j := 0) (n := n) (by omega)
      simp only [List.nil_append, List.length_nil, Nat.zero_add, List.append_nil] at hr
      rw [show ((0 : Nat) : Int) = 0 from rfl] at hr
      dsimp only
      rw [List.length_replicate, wu (by omega) (by omega), if_pos rfl, if_pos (by omega), hr]
      simp
end Go.Proofs.Ytokekjbodkjjpaa.Pure
