/- PageSizes walked. -/
import Derived.Test.YtpaiigonagiemaaPg6
namespace Go.Proofs.Ytpaiigonagiemaa.PAll
open Go.Proofs.Ytpaiigonagiemaa.Help
open Go.RowKit Go.Proofs.YtpaiigonagiemaaW.PrintWords Go.Proofs.YtpaiigonagiemaaW.PrintLast Go.Proofs.YtpaiigonagiemaaW.PrintMore
open Go.Proofs.Ytpaiigonagiemaa.Num (enc psz enc_lt enc_ge size_eq size_out enc_len2)
set_option linter.unusedVariables false
set_option linter.unusedSimpArgs false
theorem psz_low {n : Nat} (h : n < 128) : psz n = (5 + n + 63) / 64 := by unfold psz; rw [enc_lt h]; rfl
theorem psz_high {n : Nat} (h : 128 ≤ n) (h8 : n ≤ 8192) : psz n = (6 + n + 63) / 64 := by
  unfold psz
  rw [enc_ge h, enc_lt (show n / 128 < 128 by omega)]
  rfl
set_option maxRecDepth 100000 in
set_option maxHeartbeats 4000000 in
theorem page_sizes_mid (n m : Nat) (w : World) (hm : m ≤ 65535) (hn1 : Int.tmod (m : Int) 8400 = (n : Int)) (hn3 : n < 8192) (hw0 : IntKind.i64.wrap (n : Int) = (n : Int)) (hw1 : IntKind.i64.wrap ((n : Int) + 1) = (n : Int) + 1) (a b : Nat) (HA : Aside0 (page_Size.f 12 (n : Int) = some (a : Int))) (HB : Aside0 (page_Size.f 12 ((n : Int) + 1) = some (b : Int))) (ha : a = psz n) (hb3 : b = psz (n + 1)) :
    Calls Try.prog 6 #[.int .u16 (m : Int)] w fun e w' => e = .returned (.bool true) ∧ Below w.heap.size w w' := by
  have c1 : decide ((8192 : Int) < (n : Int)) = false := decide_eq_false (by omega)
  by_cases h128 : 128 ≤ n
  · skip
    have hab : a ≤ 130 := by rw [ha, psz_high h128 (by omega)]; omega
    have c2 : decide ((128 : Int) ≤ (n : Int)) = true := decide_eq_true (by omega)
    have hw2 : IntKind.i64.wrap (6 + (n : Int)) = 6 + (n : Int) := wrapI (by omega) (by omega)
    have hw3 : IntKind.i64.wrap (6 + (n : Int) + 63) = 6 + (n : Int) + 63 := wrapI (by omega) (by omega)
    have hda : Int.tdiv (6 + (n : Int) + 63) 64 = (a : Int) := by rw [Int.tdiv_eq_ediv_of_nonneg (by omega), ha, psz_high h128 (by omega)]; omega
    have hwa : IntKind.i64.wrap ((a : Int) + 1) = (a : Int) + 1 := wrapI (by omega) (by omega)
    have HWX : Aside0 (wrap64 (a : Int) = (a : Int)) := ⟨Num.wr (by omega) (by omega)⟩
    have hb' : b = a ∨ b = a + 1 := by
      · have := hb3
        by_cases hq : n + 1 < 128
        · rw [psz_low hq] at this
          rw [psz_high h128 (by omega)] at ha
          omega
        · rw [psz_high (by omega) (by omega)] at this
          rw [psz_high h128 (by omega)] at ha
          omega
    clear hb3 ha
    have c6 : decide ((n : Int) < 8192) = true := decide_eq_true (by omega)
    have c7 : ((n : Int) == 8192) = false := by rw [beq_eq_false_iff_ne]; omega
    by_cases hba : b = a
    · subst hba
      clear hb'
      go_enter Try.func6, Try.ntmps6
      go_wp2_with (first
        | (go_at_call 9; refine (page_known _).mono ?_; rintro e w1 ⟨rfl, hB⟩; have HBw := Aside0.mk hB; clear hB)
        | (go_at_call_of 12 (Value.int IntKind.i64 (n : Int)); refine (page_Size.calls 12 _ _ _ HA.out).mono ?_; rintro e w2 ⟨rfl, hB⟩; replace HBw := Aside0.mk (below_step HBw.out hB); clear hB)
        | (go_at_call 12; refine (page_Size.calls 12 _ _ _ HB.out).mono ?_; rintro e w3 ⟨rfl, hB⟩; replace HBw := Aside0.mk (below_step HBw.out hB); clear hB)
        | fail)
      all_goals first | (exfalso; rename_i h; rw [HWX.out] at h; simp at h; done) | skip
      all_goals go_ret
      all_goals exact ⟨by simp, HBw.out⟩
    · have e : (b : Int) = (a : Int) + 1 := by omega
      have c8 : ((b : Int) == (a : Int)) = false := by rw [beq_eq_false_iff_ne]; omega
      have c10 : ((b : Int) == (a : Int) + 1) = true := by rw [beq_iff_eq]; omega
      clear hb' hba e
      go_enter Try.func6, Try.ntmps6
      go_wp2_with (first
        | (go_at_call 9; refine (page_known _).mono ?_; rintro e w1 ⟨rfl, hB⟩; have HBw := Aside0.mk hB; clear hB)
        | (go_at_call_of 12 (Value.int IntKind.i64 (n : Int)); refine (page_Size.calls 12 _ _ _ HA.out).mono ?_; rintro e w2 ⟨rfl, hB⟩; replace HBw := Aside0.mk (below_step HBw.out hB); clear hB)
        | (go_at_call 12; refine (page_Size.calls 12 _ _ _ HB.out).mono ?_; rintro e w3 ⟨rfl, hB⟩; replace HBw := Aside0.mk (below_step HBw.out hB); clear hB)
        | fail)
      all_goals first | (exfalso; rename_i h; rw [HWX.out] at h; simp at h; done) | skip
      all_goals go_ret
      all_goals exact ⟨by simp, HBw.out⟩
  · skip
    have hab : a ≤ 130 := by rw [ha, psz_low (by omega)]; omega
    have c2 : decide ((128 : Int) ≤ (n : Int)) = false := decide_eq_false (by omega)
    have hw2 : IntKind.i64.wrap (5 + (n : Int)) = 5 + (n : Int) := wrapI (by omega) (by omega)
    have hw3 : IntKind.i64.wrap (5 + (n : Int) + 63) = 5 + (n : Int) + 63 := wrapI (by omega) (by omega)
    have hda : Int.tdiv (5 + (n : Int) + 63) 64 = (a : Int) := by rw [Int.tdiv_eq_ediv_of_nonneg (by omega), ha, psz_low (by omega)]; omega
    have hwa : IntKind.i64.wrap ((a : Int) + 1) = (a : Int) + 1 := wrapI (by omega) (by omega)
    have HWX : Aside0 (wrap64 (a : Int) = (a : Int)) := ⟨Num.wr (by omega) (by omega)⟩
    have hb' : b = a ∨ b = a + 1 := by
      · have := hb3
        by_cases hq : n + 1 < 128
        · rw [psz_low hq] at this
          rw [psz_low (by omega)] at ha
          omega
        · rw [psz_high (by omega) (by omega)] at this
          rw [psz_low (by omega)] at ha
          omega
    clear hb3 ha
    have c6 : decide ((n : Int) < 8192) = true := decide_eq_true (by omega)
    have c7 : ((n : Int) == 8192) = false := by rw [beq_eq_false_iff_ne]; omega
    by_cases hba : b = a
    · subst hba
      clear hb'
      go_enter Try.func6, Try.ntmps6
      go_wp2_with (first
        | (go_at_call 9; refine (page_known _).mono ?_; rintro e w1 ⟨rfl, hB⟩; have HBw := Aside0.mk hB; clear hB)
        | (go_at_call_of 12 (Value.int IntKind.i64 (n : Int)); refine (page_Size.calls 12 _ _ _ HA.out).mono ?_; rintro e w2 ⟨rfl, hB⟩; replace HBw := Aside0.mk (below_step HBw.out hB); clear hB)
        | (go_at_call 12; refine (page_Size.calls 12 _ _ _ HB.out).mono ?_; rintro e w3 ⟨rfl, hB⟩; replace HBw := Aside0.mk (below_step HBw.out hB); clear hB)
        | fail)
      all_goals first | (exfalso; rename_i h; rw [HWX.out] at h; simp at h; done) | skip
      all_goals go_ret
      all_goals exact ⟨by simp, HBw.out⟩
    · have e : (b : Int) = (a : Int) + 1 := by omega
      have c8 : ((b : Int) == (a : Int)) = false := by rw [beq_eq_false_iff_ne]; omega
      have c10 : ((b : Int) == (a : Int) + 1) = true := by rw [beq_iff_eq]; omega
      clear hb' hba e
      go_enter Try.func6, Try.ntmps6
      go_wp2_with (first
        | (go_at_call 9; refine (page_known _).mono ?_; rintro e w1 ⟨rfl, hB⟩; have HBw := Aside0.mk hB; clear hB)
        | (go_at_call_of 12 (Value.int IntKind.i64 (n : Int)); refine (page_Size.calls 12 _ _ _ HA.out).mono ?_; rintro e w2 ⟨rfl, hB⟩; replace HBw := Aside0.mk (below_step HBw.out hB); clear hB)
        | (go_at_call 12; refine (page_Size.calls 12 _ _ _ HB.out).mono ?_; rintro e w3 ⟨rfl, hB⟩; replace HBw := Aside0.mk (below_step HBw.out hB); clear hB)
        | fail)
      all_goals first | (exfalso; rename_i h; rw [HWX.out] at h; simp at h; done) | skip
      all_goals go_ret
      all_goals exact ⟨by simp, HBw.out⟩
set_option maxRecDepth 100000 in
set_option maxHeartbeats 4000000 in
theorem page_sizes (m : Nat) (w : World) (hm : m ≤ 65535) : Calls Try.prog 6 #[.int .u16 (m : Int)] w fun e w' => e = .returned (.bool true) ∧ Below w.heap.size w w' := by
  obtain ⟨n, hn⟩ : ∃ n, n = m % 8400 := ⟨_, rfl⟩
  have hn1 : Int.tmod (m : Int) 8400 = (n : Int) := by rw [Int.tmod_eq_emod_of_nonneg (by omega)]; omega
  have hn3 : n < 8400 := by omega
  have hw0 : IntKind.i64.wrap (n : Int) = (n : Int) := wrapI (by omega) (by omega)
  have hw1 : IntKind.i64.wrap ((n : Int) + 1) = (n : Int) + 1 := wrapI (by omega) (by omega)
  clear hn
  obtain ⟨a, ha⟩ : ∃ a : Nat, page_Size.f 12 (n : Int) = some (a : Int) ∧ (8192 < n → a = 0) ∧ (n ≤ 8192 → a = psz n) := by
    by_cases h : n ≤ 8192
    · exact ⟨psz n, size_eq h 12 (by omega), fun h' => by omega, fun _ => rfl⟩
    · exact ⟨0, size_out (.inr (by omega)) 12, fun _ => rfl, fun h' => by omega⟩
  obtain ⟨b, hb⟩ : ∃ b : Nat, page_Size.f 12 ((n : Int) + 1) = some (b : Int) ∧ (8192 ≤ n → b = 0) ∧ (n < 8192 → b = psz (n + 1)) := by
    by_cases h : n < 8192
    · exact ⟨psz (n + 1), size_eq (n := n + 1) h 12 (by omega), fun h' => by omega, fun _ => rfl⟩
    · exact ⟨0, size_out (.inr (by omega)) 12, fun _ => rfl, fun h' => by omega⟩
  obtain ⟨ha1, ha2, ha3⟩ := ha
  obtain ⟨hb1, hb2, hb3⟩ := hb
  have HA := Aside0.mk ha1
  have HB := Aside0.mk hb1
  clear ha1 hb1
  by_cases hbig : 8192 < n
  · have a0 : a = 0 := ha2 hbig
    subst a0
    have c1 : decide ((8192 : Int) < (n : Int)) = true := decide_eq_true (by omega)
    clear ha2 ha3 hb2 hb3
    go_enter Try.func6, Try.ntmps6
    go_wp2_with (first
      | (go_at_call 9; refine (page_known _).mono ?_; rintro e w1 ⟨rfl, hB⟩; have HBw := Aside0.mk hB; clear hB)
      | (go_at_call_of 12 (Value.int IntKind.i64 (n : Int)); refine (page_Size.calls 12 _ _ _ HA.out).mono ?_; rintro e w2 ⟨rfl, hB⟩; replace HBw := Aside0.mk (below_step HBw.out hB); clear hB)
      | (go_at_call 12; refine (page_Size.calls 12 _ _ _ HB.out).mono ?_; rintro e w3 ⟨rfl, hB⟩; replace HBw := Aside0.mk (below_step HBw.out hB); clear hB)
      | fail)
    all_goals go_ret
    all_goals exact ⟨by simp, HBw.out⟩
  · by_cases h8 : n = 8192
    · have hn8 : Int.tmod (m : Int) 8400 = 8192 := by omega
      have hs1 := Aside0.mk (show page_Size.f 12 8192 = some 129 by kernel_rfl)
      have hs2 := Aside0.mk (show page_Size.f 12 8193 = some 0 by kernel_rfl)
      clear hn1 hn3 hw0 hw1 HA HB ha2 ha3 hb2 hb3 hbig h8
      go_enter Try.func6, Try.ntmps6
      go_wp2_with (first
        | (go_at_call 9; refine (page_known _).mono ?_; rintro e w1 ⟨rfl, hB⟩; have HBw := Aside0.mk hB; clear hB)
        | (go_at_call_of 12 (Value.int IntKind.i64 8192); refine (page_Size.calls 12 8192 129 _ hs1.out).mono ?_; rintro e w2 ⟨rfl, hB⟩; replace HBw := Aside0.mk (below_step HBw.out hB); clear hB)
        | (go_at_call_of 12 (Value.int IntKind.i64 8193); refine (page_Size.calls 12 8193 0 _ hs2.out).mono ?_; rintro e w3 ⟨rfl, hB⟩; replace HBw := Aside0.mk (below_step HBw.out hB); clear hB)
        | fail)
      all_goals go_ret
      all_goals exact ⟨by simp, HBw.out⟩
    · exact page_sizes_mid n m w hm hn1 (by omega) hw0 hw1 a b HA HB (ha3 (by omega)) (hb3 (by omega))
theorem norialaw13_PageSizes.walk (a0 : Int) (w : World) (w0 : (Lit.int .u16 a0).wf = true) : Calls Try.prog 6 #[.int .u16 a0] w fun e w' => e = .returned (.bool true) ∧ Below w.heap.size w w' := by
  obtain ⟨h0, h1⟩ := Go.bounds_u16 w0
  obtain ⟨m, rfl⟩ := Int.eq_ofNat_of_zero_le h0
  exact page_sizes m w (by omega)
end Go.Proofs.Ytpaiigonagiemaa.PAll
