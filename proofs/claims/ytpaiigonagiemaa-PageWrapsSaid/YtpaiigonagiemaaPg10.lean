/- PageWraps walked. -/
import Derived.Test.YtpaiigonagiemaaPg6
import Derived.Test.YtpaiigonagiemaaPg9
namespace Go.Proofs.Ytpaiigonagiemaa.PAll
open Go.Proofs.Ytpaiigonagiemaa.Help
open Go.RowKit Go.Proofs.YtpaiigonagiemaaW.PrintWords Go.Proofs.YtpaiigonagiemaaW.PrintLast Go.Proofs.YtpaiigonagiemaaW.PrintMore
open Go.Proofs.Ytpaiigonagiemaa.Num (isB enc psz wrapB unwrapB wrap_eq wrap_long rwrap_eq rwrap_long rsize_eq rsize_out size_eq size_out wrapB_length wrapB_isB unwrap_wrap psz_fits)
set_option linter.unusedVariables false
set_option linter.unusedSimpArgs false
theorem page_wraps_big (A : Option Addr) (c : Nat) (b : List Int) (w : World) (h5 : 9000 < b.length) :
    Calls Try.prog 3 #[.slice A b.length c] w fun e w' => e = .returned (.bool true) ∧ Below w.heap.size w w' := by
  have h1 : decide ((9000 : Int) < (b.length : Int)) = true := decide_eq_true (by omega)
  go_enter Try.func3, Try.ntmps3
  go_wp2_with (first
    | (go_at_call 9; refine (page_known _).mono ?_; rintro e w1 ⟨rfl, hB⟩; have HBw := Aside0.mk hB; clear hB)
    | fail)
  all_goals go_ret
  all_goals exact ⟨by simp, HBw.out⟩
set_option maxRecDepth 100000 in
set_option maxHeartbeats 4000000 in
theorem page_wraps_long (A : Option Addr) (c : Nat) (b : List Int) (w : World) (hr : Kd.C (Kd.int .u8) w A b.length b) (hc : b.length ≤ c) (h5 : b.length ≤ 9000) (h8 : 8192 < b.length) :
    Calls Try.prog 3 #[.slice A b.length c] w fun e w' => e = .returned (.bool true) ∧ Below w.heap.size w w' := by
  have h1 : decide ((9000 : Int) < (b.length : Int)) = false := decide_eq_false (by omega)
  have HWE := Aside0.mk (wrap_long h8 5)
  have HRE := Aside0.mk (rwrap_long h8 5)
  have HSE := Aside0.mk (size_out (n := (b.length : Int)) (.inr (by omega)) 5)
  have HTE := Aside0.mk (rsize_out (n := (b.length : Int)) (.inr (by omega)) 5)
  have HR := Aside0.mk hr
  have HC := Aside0.mk hc
  clear hr hc
  go_enter Try.func3, Try.ntmps3
  go_wp2_with (first
    | (go_at_call 9; refine (page_known _).mono ?_; rintro e w1 ⟨rfl, hB⟩; have HB1 := Aside0.mk hB; clear hB)
    | (go_at_call 10; (with_reducible refine (page_Wrap.calls 5 A c b [] 4 _ (Kd.C_below HR.out HB1.out) HC.out HWE.out).mono ?_); rintro e w2 ⟨v2, rfl, ho, hB⟩; obtain ⟨A2, c2, rfl, hc2, hC2⟩ := Kd.R_reads ho; have HC2 : Aside0 (Kd.C (Kd.int .u8) w2 A2 ([] : List Int).length []) := ⟨hC2⟩; have HB2 := Aside0.mk (below_step HB1.out hB); clear hB ho hc2 hC2)
    | (go_at_call 11; (with_reducible refine (noriaref18_Wrap.calls 5 A c b [] 4 _ (Kd.C_below HR.out HB2.out) HC.out HRE.out).mono ?_); rintro e w3 ⟨v3, rfl, ho, hB⟩; obtain ⟨A3, c3, rfl, hc3, hC3⟩ := Kd.R_reads ho; have hs2 := C_str (c := c2) (Kd.C_below HC2.out hB); have hs3 := C_str (c := c3) hC3; rw [List.length_nil] at hs2 hs3; have HB3 := Aside0.mk (below_step HB2.out hB); clear hB ho hc3 hC3)
    | (go_at_call 12; refine (page_Size.calls 5 _ _ _ HSE.out).mono ?_; rintro e w4 ⟨rfl, hB⟩; have HB4 := Aside0.mk (below_step HB3.out hB); clear hB)
    | (go_at_call 13; refine (noriaref18_Size.calls 5 _ _ _ HTE.out).mono ?_; rintro e w5 ⟨rfl, hB⟩; have HB5 := Aside0.mk (below_step HB4.out hB); clear hB)
    | fail)
  all_goals go_ret
  all_goals exact ⟨by simp, HB5.out⟩
set_option maxRecDepth 100000 in
set_option maxHeartbeats 4000000 in
theorem page_wraps (A : Option Addr) (c : Nat) (b : List Int) (w : World) (hr : Kd.C (Kd.int .u8) w A b.length b) (hc : b.length ≤ c) (hB : isB b) (h8 : b.length ≤ 8192) :
    Calls Try.prog 3 #[.slice A b.length c] w fun e w' => e = .returned (.bool true) ∧ Below w.heap.size w w' := by
  have h1 : decide ((9000 : Int) < (b.length : Int)) = false := decide_eq_false (by omega)
  have HWE := Aside0.mk (wrap_eq hB h8 90000 (by omega))
  have HRE := Aside0.mk (rwrap_eq hB h8 90000 (by omega))
  have HSE := Aside0.mk (size_eq h8 12 (by omega))
  have HTE := Aside0.mk (rsize_eq h8 12 (by omega))
  have HU := Aside0.mk (unwrap_wrap hB h8)
  have HXL := Aside0.mk (wrapB_length b)
  have HXB := Aside0.mk (wrapB_isB hB)
  have hple := psz_le h8
  have hps := psz_fits b.length
  have HR := Aside0.mk hr
  have HC := Aside0.mk hc
  clear hr hc
  generalize wrapB b = x at *
  generalize psz b.length = m at *
  obtain ⟨n, hn⟩ : ∃ n, n = x.length := ⟨_, rfl⟩
  have hnm : n = m * 64 := by rw [hn]; exact HXL.out
  have HN := Aside0.mk hn
  have hw1 : IntKind.i64.wrap (64 * (m : Int)) = 64 * (m : Int) := wrapI (by omega) (by omega)
  have hq : ((n : Int) == 64 * (m : Int)) = true := by rw [beq_iff_eq]; omega
  have hn8 : n ≤ 8320 := by omega
  clear hn hnm
  go_enter Try.func3, Try.ntmps3
  go_wp2_with (first
    | (go_at_call 9; refine (page_known _).mono ?_; rintro e w1 ⟨rfl, hB⟩; have HB1 := Aside0.mk hB; clear hB)
    | (go_at_call 10; (with_reducible refine (page_Wrap.calls 90000 A c b x 0 _ (Kd.C_below HR.out HB1.out) HC.out HWE.out).mono ?_); rintro e w2 ⟨v2, rfl, ho, hB⟩; obtain ⟨A2, c2, rfl, hc2, hC2⟩ := Kd.R_reads ho; rw [← HN.out] at hc2 ⊢; have HCA2 := Aside0.mk hc2; have HC2 : Aside0 (Kd.C (Kd.int .u8) w2 A2 x.length x) := ⟨hC2⟩; have HB2 := Aside0.mk (below_step HB1.out hB); clear hB ho hc2 hC2)
    | (go_at_call 11; (with_reducible refine (noriaref18_Wrap.calls 90000 A c b x 0 _ (Kd.C_below HR.out HB2.out) HC.out HRE.out).mono ?_); rintro e w3 ⟨v3, rfl, ho, hB⟩; obtain ⟨A3, c3, rfl, hc3, hC3⟩ := Kd.R_reads ho; have hs2 := C_str (c := c2) (Kd.C_below HC2.out hB); have hs3 := C_str (c := c3) hC3; rw [← HN.out] at hs2 hs3 ⊢; replace HC2 : Aside0 (Kd.C (Kd.int .u8) w3 A2 x.length x) := ⟨Kd.C_below HC2.out hB⟩; have HB3 := Aside0.mk (below_step HB2.out hB); clear hB ho hc3 hC3)
    | (go_at_call 13; refine (noriaref18_Size.calls 12 _ _ _ HTE.out).mono ?_; rintro e w5 ⟨rfl, hB⟩; have HB5 := Aside0.mk (below_step HB4.out hB); replace HC2 : Aside0 (Kd.C (Kd.int .u8) w5 A2 x.length x) := ⟨Kd.C_below HC2.out hB⟩; clear hB)
    | (go_at_call 14; have hc := page_unwrap A2 c2 x w5 HC2.out (by rw [← HN.out]; exact HCA2.out) HXB.out (by rw [← HN.out]; omega); rw [HU.out, ← HN.out] at hc; (with_reducible refine hc.mono ?_); clear hc; rintro e w6 ⟨v6, rfl, ho, hB⟩; obtain ⟨A6, c6, rfl, hc6, hC6⟩ := Kd.R_reads ho; have hs6 := C_str (c := c6) hC6; have HB6 := Aside0.mk (below_step HB5.out hB); have hs7 := C_str (c := c) (Kd.C_below HR.out HB6.out); clear hB ho hc6 hC6)
    | (refine (show Calls Try.prog 12 #[.int .i64 (b.length : Int)] w6 _ from page_Size.calls 12 _ _ _ HSE.out).mono ?_; rintro e w7 ⟨rfl, hB⟩; have HB7 := Aside0.mk (below_step HB6.out hB); clear hB)
    | (go_at_call 12; refine (page_Size.calls 12 _ _ _ HSE.out).mono ?_; rintro e w4 ⟨rfl, hB⟩; have HB4 := Aside0.mk (below_step HB3.out hB); replace HC2 : Aside0 (Kd.C (Kd.int .u8) w4 A2 x.length x) := ⟨Kd.C_below HC2.out hB⟩; clear hB)
    | fail)
  all_goals go_ret
  all_goals exact ⟨by simp, HB7.out⟩
theorem page_wraps_all (A : Option Addr) (c : Nat) (b : List Int) (w : World) (hr : Kd.C (Kd.int .u8) w A b.length b) (hc : b.length ≤ c) (hB : isB b) :
    Calls Try.prog 3 #[.slice A b.length c] w fun e w' => e = .returned (.bool true) ∧ Below w.heap.size w w' := by
  by_cases h9 : 9000 < b.length
  · exact page_wraps_big A c b w h9
  · by_cases h8 : 8192 < b.length
    · exact page_wraps_long A c b w hr hc (by omega) h8
    · exact page_wraps A c b w hr hc hB (by omega)
theorem norialaw13_PageWraps.walk (a0 : Option Addr) (len0 cap0 : Nat) (z0 : List Int) (w : World)
    (w0 : (a0 = none ∧ len0 = 0 ∧ cap0 = 0 ∧ z0 = []) ∨ ∃ x, a0 = some x ∧ len0 ≤ cap0 ∧ cap0 ≤ maxLen ∧ z0.length = cap0 ∧ (∀ i, i < z0.length → w.cell? (x.add i) = some (.int .u8 (z0.getD i 0))) ∧ ∀ n ∈ z0, (Lit.int .u8 n).wf = true) (y0 : len0 * 1 ≤ 140737488351232) :
    Calls Try.prog 3 #[.slice a0 len0 cap0] w fun e w' => e = .returned (.bool true) ∧ Below w.heap.size w w' := by
  obtain ⟨l0, rfl, hr0, hm0, hw0, hc0⟩ := ReadsInt.ofRowC w0
  exact page_wraps_all a0 cap0 l0 w (Kd.C_of_reads (d := (0 : Int)) (h1 := fun _ => rfl) hr0) hc0 (Num.isB_of_wf hw0)
end Go.Proofs.Ytpaiigonagiemaa.PAll
