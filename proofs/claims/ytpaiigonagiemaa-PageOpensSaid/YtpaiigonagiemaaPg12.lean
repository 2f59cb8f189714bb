/- PageOpens walked. -/
import Derived.Test.YtpaiigonagiemaaPg11
namespace Go.Proofs.Ytpaiigonagiemaa.PAll
open Go.Proofs.Ytpaiigonagiemaa.Help
open Go.RowKit Go.Proofs.YtpaiigonagiemaaW.PrintWords Go.Proofs.YtpaiigonagiemaaW.PrintLast Go.Proofs.YtpaiigonagiemaaW.PrintMore
open Go.Proofs.Ytpaiigonagiemaa.Num (isB enc psz wrapB unwrapB wrap_eq runwrap_eq unwrapB_or wrap_unwrap)
set_option linter.unusedVariables false
set_option linter.unusedSimpArgs false
theorem page_opens_big (A : Option Addr) (c : Nat) (b : List Int) (w : World) (h5 : 2000 < b.length) :
    Calls Try.prog 4 #[.slice A b.length c] w fun e w' => e = .returned (.bool true) ∧ Below w.heap.size w w' := by
  have h1 : decide ((2000 : Int) < (b.length : Int)) = true := decide_eq_true (by omega)
  go_enter Try.func4, Try.ntmps4
  go_wp2_with (first
    | (go_at_call 9; refine (page_known _).mono ?_; rintro e w1 ⟨rfl, hB⟩; have HBw := Aside0.mk hB; clear hB)
    | fail)
  all_goals go_ret
  all_goals exact ⟨by simp, HBw.out⟩
set_option maxRecDepth 100000 in
set_option maxHeartbeats 4000000 in
theorem page_opens_bad (A : Option Addr) (c : Nat) (b : List Int) (w : World) (hr : Kd.C (Kd.int .u8) w A b.length b) (hc : b.length ≤ c) (hB : isB b) (h5 : b.length ≤ 2000) (hu : unwrapB b = ([], 12)) :
    Calls Try.prog 4 #[.slice A b.length c] w fun e w' => e = .returned (.bool true) ∧ Below w.heap.size w w' := by
  have h1 : decide ((2000 : Int) < (b.length : Int)) = false := decide_eq_false (by omega)
  have HRE := Aside0.mk (runwrap_eq hB (by omega) 2000000 (by omega))
  have HU := Aside0.mk hu
  have HBB := Aside0.mk hB
  have HR := Aside0.mk hr
  have HC := Aside0.mk hc
  rw [hu] at HRE
  clear hr hc hu hB
  go_enter Try.func4, Try.ntmps4
  go_wp2_with (first
    | (go_at_call 9; refine (page_known _).mono ?_; rintro e w1 ⟨rfl, hB⟩; have HB1 := Aside0.mk hB; clear hB)
    | (go_at_call 14; have hc := page_unwrap A c b w1 (Kd.C_below HR.out HB1.out) HC.out HBB.out (by omega); rw [HU.out] at hc; (with_reducible refine hc.mono ?_); clear hc; rintro e w2 ⟨v2, rfl, ho, hB⟩; obtain ⟨A2, c2, rfl, hc2, hC2⟩ := Kd.R_reads ho; have HC2 : Aside0 (Kd.C (Kd.int .u8) w2 A2 ([] : List Int).length []) := ⟨hC2⟩; have HB2 := Aside0.mk (below_step HB1.out hB); clear hB ho hc2 hC2)
    | (go_at_call 15; (with_reducible refine (noriaref18_Unwrap.calls 2000000 A c b [] 12 _ (Kd.C_below HR.out HB2.out) HC.out HRE.out).mono ?_); rintro e w3 ⟨v3, rfl, ho, hB⟩; obtain ⟨A3, c3, rfl, hc3, hC3⟩ := Kd.R_reads ho; have hs2 := C_str (c := c2) (Kd.C_below HC2.out hB); have hs3 := C_str (c := c3) hC3; rw [List.length_nil] at hs2 hs3; have HB3 := Aside0.mk (below_step HB2.out hB); clear hB ho hc3 hC3)
    | fail)
  all_goals go_ret
  all_goals exact ⟨by simp, HB3.out⟩
set_option maxRecDepth 100000 in
set_option maxHeartbeats 4000000 in
theorem page_opens_ok (A : Option Addr) (c : Nat) (b x : List Int) (w : World) (hr : Kd.C (Kd.int .u8) w A b.length b) (hc : b.length ≤ c) (hB : isB b) (h5 : b.length ≤ 2000) (hu : unwrapB b = (x, 0)) :
    Calls Try.prog 4 #[.slice A b.length c] w fun e w' => e = .returned (.bool true) ∧ Below w.heap.size w w' := by
  have h1 : decide ((2000 : Int) < (b.length : Int)) = false := decide_eq_false (by omega)
  obtain ⟨hwx, hx8, hxB⟩ := wrap_unwrap hB hu
  have hwe := wrap_eq hxB hx8 90000 (by omega)
  rw [hwx] at hwe
  have HWE := Aside0.mk hwe
  have HRE := Aside0.mk (runwrap_eq hB (by omega) 2000000 (by omega))
  have HU := Aside0.mk hu
  have HBB := Aside0.mk hB
  have HR := Aside0.mk hr
  have HC := Aside0.mk hc
  rw [hu] at HRE
  clear hr hc hu hB hwe hwx
  go_enter Try.func4, Try.ntmps4
  go_wp2_with (first
    | (go_at_call 9; refine (page_known _).mono ?_; rintro e w1 ⟨rfl, hB⟩; have HB1 := Aside0.mk hB; clear hB)
    | (go_at_call 14; have hc := page_unwrap A c b w1 (Kd.C_below HR.out HB1.out) HC.out HBB.out (by omega); rw [HU.out] at hc; (with_reducible refine hc.mono ?_); clear hc; rintro e w2 ⟨v2, rfl, ho, hB⟩; obtain ⟨A2, c2, rfl, hc2, hC2⟩ := Kd.R_reads ho; have HCA2 := Aside0.mk hc2; have HC2 : Aside0 (Kd.C (Kd.int .u8) w2 A2 x.length x) := ⟨hC2⟩; have HB2 := Aside0.mk (below_step HB1.out hB); clear hB ho hc2 hC2)
    | (go_at_call 15; (with_reducible refine (noriaref18_Unwrap.calls 2000000 A c b x 0 _ (Kd.C_below HR.out HB2.out) HC.out HRE.out).mono ?_); rintro e w3 ⟨v3, rfl, ho, hB⟩; obtain ⟨A3, c3, rfl, hc3, hC3⟩ := Kd.R_reads ho; have hs2 := C_str (c := c2) (Kd.C_below HC2.out hB); have hs3 := C_str (c := c3) hC3; replace HC2 : Aside0 (Kd.C (Kd.int .u8) w3 A2 x.length x) := ⟨Kd.C_below HC2.out hB⟩; have HB3 := Aside0.mk (below_step HB2.out hB); clear hB ho hc3 hC3)
    | (go_at_call 10; (with_reducible refine (page_Wrap.calls 90000 A2 c2 x b 0 _ HC2.out HCA2.out HWE.out).mono ?_); rintro e w4 ⟨v4, rfl, ho, hB⟩; obtain ⟨A4, c4, rfl, hc4, hC4⟩ := Kd.R_reads ho; have HB4 := Aside0.mk (below_step HB3.out hB); have hs4 := C_str (c := c4) hC4; have hs5 := C_str (c := c) (Kd.C_below HR.out HB4.out); clear hB ho hc4 hC4)
    | fail)
  all_goals go_ret
  all_goals exact ⟨by simp, HB4.out⟩
theorem norialaw13_PageOpens.walk (a0 : Option Addr) (len0 cap0 : Nat) (z0 : List Int) (w : World)
    (w0 : (a0 = none ∧ len0 = 0 ∧ cap0 = 0 ∧ z0 = []) ∨ ∃ x, a0 = some x ∧ len0 ≤ cap0 ∧ cap0 ≤ maxLen ∧ z0.length = cap0 ∧ (∀ i, i < z0.length → w.cell? (x.add i) = some (.int .u8 (z0.getD i 0))) ∧ ∀ n ∈ z0, (Lit.int .u8 n).wf = true) (y0 : len0 * 1 ≤ 140737488351232) :
    Calls Try.prog 4 #[.slice a0 len0 cap0] w fun e w' => e = .returned (.bool true) ∧ Below w.heap.size w w' := by
  obtain ⟨l0, rfl, hr0, hm0, hw0, hc0⟩ := ReadsInt.ofRowC w0
  have hC := Kd.C_of_reads (d := (0 : Int)) (h1 := fun _ => rfl) hr0
  by_cases h5 : 2000 < l0.length
  · exact page_opens_big a0 cap0 l0 w h5
  · rcases unwrapB_or l0 with hu | hu
    · exact page_opens_bad a0 cap0 l0 w hC hc0 (Num.isB_of_wf hw0) (by omega) hu
    · exact page_opens_ok a0 cap0 l0 _ w hC hc0 (Num.isB_of_wf hw0) (by omega) (Prod.ext rfl hu)
end Go.Proofs.Ytpaiigonagiemaa.PAll
