/- PageTurned walked. -/
import Derived.Test.YtpaiigonagiemaaPg6
namespace Go.Proofs.Ytpaiigonagiemaa.Num
open Go Go.RowKit Go.Proofs.Ytpaiigonagiemaa.PAll Go.Proofs.YtpaiigonagiemaaW.PrintWords Go.Proofs.YtpaiigonagiemaaW.PrintLast Go.Proofs.YtpaiigonagiemaaW.PrintMore
set_option linter.unusedVariables false
set_option linter.unusedSimpArgs false
theorem g4_four {a b c d : Int} {l : List Int} (ha : 0 ≤ a ∧ a ≤ 255) (hb : 0 ≤ b ∧ b ≤ 255) (hc : 0 ≤ c ∧ c ≤ 255) (hd : 0 ≤ d ∧ d ≤ 255) : (g4 ([a, b, c, d] ++ l) 0).1 = a + 256 * b + 65536 * c + 16777216 * d := by
  unfold g4
  rw [if_neg (by simp; omega), if_neg (by simp; omega)]
  rfl
/-- Four bytes, one of which is turned, are another number. -/
theorem g4_set {n : Int} (h0 : 0 ≤ n) (h1 : n ≤ 4294967295) {j : Nat} (hj : j < 4) {y : Int} (y0 : 0 ≤ y) (y1 : y ≤ 255) (hne : y ≠ (b4 n)[j]'(by rw [b4_length]; exact hj)) (l : List Int) : (g4 ((b4 n).set j y ++ l) 0).1 ≠ n := by
  rcases (by omega : j = 0 ∨ j = 1 ∨ j = 2 ∨ j = 3) with rfl | rfl | rfl | rfl
  · have hne' : y ≠ n % 256 := hne
    rw [show (b4 n).set 0 y = [y, n / 256 % 256, n / 65536 % 256, n / 16777216 % 256] from rfl, g4_four ⟨y0, y1⟩ (by omega) (by omega) (by omega)]
    omega
  · have hne' : y ≠ n / 256 % 256 := hne
    rw [show (b4 n).set 1 y = [n % 256, y, n / 65536 % 256, n / 16777216 % 256] from rfl, g4_four (by omega) ⟨y0, y1⟩ (by omega) (by omega)]
    omega
  · have hne' : y ≠ n / 65536 % 256 := hne
    rw [show (b4 n).set 2 y = [n % 256, n / 256 % 256, y, n / 16777216 % 256] from rfl, g4_four (by omega) (by omega) ⟨y0, y1⟩ (by omega)]
    omega
  · have hne' : y ≠ n / 16777216 % 256 := hne
    rw [show (b4 n).set 3 y = [n % 256, n / 256 % 256, n / 65536 % 256, y] from rfl, g4_four (by omega) (by omega) (by omega) ⟨y0, y1⟩]
    omega
/-- Wherever a byte is turned: no page. -/
theorem unwrap_turned_any {b : List Int} (hB : isB b) {j : Nat} {y : Int} (y0 : 0 ≤ y) (y1 : y ≤ 255) (hj : j < (wrapB b).length) (hne : y ≠ (wrapB b)[j]) : unwrapB ((wrapB b).set j y) = ([], 12) := by
  by_cases h4 : j < 4
  · have hl := wrapB_length b
    have hf := psz_fits b.length
    have hc := crc_bd (wrapX_isB hB)
    have e : (wrapB b).set j y = (b4 (crc (wrapX b))).set j y ++ wrapX b := by
      unfold wrapB
      rw [List.set_append_left _ _ (by rw [b4_length]; exact h4)]
    have hg : ((wrapB b).set j y).drop 4 = wrapX b := by
      rw [e, List.drop_append_of_le_length (by rw [List.length_set, b4_length]; omega), List.drop_of_length_le (by rw [List.length_set, b4_length]; omega)]
      rfl
    have hne' : y ≠ (b4 (crc (wrapX b)))[j]'(by rw [b4_length]; exact h4) := by
      intro q
      have hs : (wrapB b)[j]? = (b4 (crc (wrapX b)))[j]? := by unfold wrapB; exact List.getElem?_append_left (by rw [b4_length]; exact h4)
      rw [List.getElem?_eq_getElem hj, List.getElem?_eq_getElem (by rw [b4_length]; exact h4)] at hs
      exact hne (q.trans (Option.some.inj hs).symm)
    have hg4 : (g4 ((wrapB b).set j y) 0).1 ≠ crc (wrapX b) := by rw [e]; exact g4_set hc.1 hc.2 h4 y0 y1 hne' _
    unfold unwrapB
    rw [List.length_set, if_neg (by rw [hl]; omega), hg, if_pos (.inl hg4)]
  · obtain ⟨i, rfl⟩ : ∃ i, j = i + 4 := ⟨j - 4, by omega⟩
    have hl : (wrapB b).length = 4 + (wrapX b).length := by unfold wrapB; rw [List.length_append, b4_length]
    refine unwrap_turned hB y0 y1 (by omega) ?_
    intro q
    have hs : (wrapB b)[i + 4]? = (wrapX b)[i]? := by
      unfold wrapB
      rw [List.getElem?_append_right (by rw [b4_length]; omega), b4_length, Nat.add_sub_cancel]
    rw [List.getElem?_eq_getElem hj, List.getElem?_eq_getElem (by omega)] at hs
    exact hne (q.trans (Option.some.inj hs).symm)
end Go.Proofs.Ytpaiigonagiemaa.Num
namespace Go.Proofs.Ytpaiigonagiemaa.PAll
open Go.Proofs.Ytpaiigonagiemaa.Help
open Go.RowKit Go.Proofs.YtpaiigonagiemaaW.PrintWords Go.Proofs.YtpaiigonagiemaaW.PrintLast Go.Proofs.YtpaiigonagiemaaW.PrintMore
open Go.Proofs.Ytpaiigonagiemaa.Num (isB enc psz wrapB unwrapB wrap_eq wrapB_length wrapB_isB psz_fits turn_ne unwrap_turned_any)
set_option linter.unusedVariables false
set_option linter.unusedSimpArgs false
theorem psz_le9 {n : Nat} (h : n ≤ 500) : psz n ≤ 9 := by have := Num.enc_len2 (n := n) (by omega); unfold psz; omega
theorem page_turned_long (A : Option Addr) (c : Nat) (b : List Int) (t : Int) (w : World) (h5 : 500 < b.length) :
    Calls Try.prog 5 #[.slice A b.length c, .int .u16 t] w fun e w' => e = .returned (.bool true) ∧ Below w.heap.size w w' := by
  have h1 : decide ((500 : Int) < (b.length : Int)) = true := decide_eq_true (by omega)
  go_enter Try.func5, Try.ntmps5
  go_wp2_with (first
    | (go_at_call 9; refine (page_known _).mono ?_; rintro e w1 ⟨rfl, hB⟩; have HBw := Aside0.mk hB; clear hB)
    | fail)
  all_goals go_ret
  all_goals exact ⟨by simp, HBw.out⟩
set_option maxRecDepth 100000 in
set_option maxHeartbeats 4000000 in
theorem page_turned (A : Option Addr) (c : Nat) (b : List Int) (t : Nat) (w : World) (hr : Kd.C (Kd.int .u8) w A b.length b) (hc : b.length ≤ c) (hB : isB b) (h5 : b.length ≤ 500) (ht : t ≤ 65535) :
    Calls Try.prog 5 #[.slice A b.length c, .int .u16 (t : Int)] w fun e w' => e = .returned (.bool true) ∧ Below w.heap.size w w' := by
  have hwe := wrap_eq hB (by omega) 90000 (by omega)
  have hxB := wrapB_isB hB
  have hxl := wrapB_length b
  have hps := psz_fits b.length
  have hp9 := psz_le9 h5
  obtain ⟨x, hx⟩ : ∃ x, x = wrapB b := ⟨_, rfl⟩
  obtain ⟨n, hn⟩ : ∃ n, n = x.length := ⟨_, rfl⟩
  rw [← hx] at hwe hxB hxl
  have hn64 : 64 ≤ n ∧ n ≤ 576 := by omega
  obtain ⟨k, hk⟩ : ∃ k, k = t % (8 * n) := ⟨_, rfl⟩
  obtain ⟨q, hq⟩ : ∃ q, q = k / 8 := ⟨_, rfl⟩
  obtain ⟨r, hr8⟩ : ∃ r, r = k % 8 := ⟨_, rfl⟩
  have hkn : k < 8 * n := by rw [hk]; exact Nat.mod_lt _ (by omega)
  have hqn : q < n := by omega
  have hr9 : r < 8 := by omega
  have hw0 : IntKind.i64.wrap (t : Int) = (t : Int) := wrapI (by omega) (by omega)
  have hw1 : IntKind.i64.wrap (8 * (n : Int)) = 8 * (n : Int) := wrapI (by omega) (by omega)
  have hrem : Int.tmod (t : Int) (8 * (n : Int)) = (k : Int) := by
    rw [Int.tmod_eq_emod_of_nonneg (by omega), hk, Int.natCast_emod, Int.natCast_mul]
    rfl
  have hquo : Int.tdiv (k : Int) 8 = (q : Int) := by rw [Int.tdiv_eq_ediv_of_nonneg (by omega), hq]; omega
  have hr8' : Int.tmod (k : Int) 8 = (r : Int) := by rw [Int.tmod_eq_emod_of_nonneg (by omega), hr8]; omega
  have hwk : IntKind.i64.wrap (k : Int) = (k : Int) := wrapI (by omega) (by omega)
  have hwq : IntKind.i64.wrap (q : Int) = (q : Int) := wrapI (by omega) (by omega)
  have hwr : IntKind.i64.wrap (r : Int) = (r : Int) := wrapI (by omega) (by omega)
  obtain ⟨z, hz⟩ : ∃ z, z = x.getD q 0 := ⟨_, rfl⟩
  have hz1 : z = x[q]'(by omega) := by rw [hz, List.getD_eq_getElem?_getD, List.getElem?_eq_getElem (by omega)]; rfl
  have hzB : 0 ≤ z ∧ z ≤ 255 := by rw [hz1]; exact hxB _ (List.getElem_mem _)
  have hp2 : 0 < 2 ^ r ∧ 2 ^ r < 256 := ⟨Nat.two_pow_pos r, by have := Nat.pow_lt_pow_right (a := 2) (by decide) hr9; omega⟩
  have htn := turn_ne hzB.1 hzB.2 hp2.1 hp2.2
  obtain ⟨y, hy⟩ : ∃ y, y = Go.bits .xor .u8 z ((2 ^ r : Nat) : Int) := ⟨_, rfl⟩
  rw [← hy] at htn
  have hyb : Go.bits .xor .u8 z (2 ^ r % 256) = y := by
    rw [hy, Int.emod_eq_of_lt (Int.pow_nonneg (by decide)) (by have := Int.ofNat_lt.2 hp2.2; rw [Int.natCast_pow] at this; exact this), Int.natCast_pow]
    rfl
  have hu : unwrapB (x.set q y) = ([], 12) := by
    have key := unwrap_turned_any (b := b) hB (j := q) (y := y) htn.2.1 htn.2.2
    rw [← hx] at key
    exact key (by omega) (by rw [← hz1]; exact htn.1)
  have hsB : isB (x.set q y) := fun v hv => by
    rcases List.mem_or_eq_of_mem_set hv with h | h
    · exact hxB v h
    · rw [h]; exact htn.2
  have HR := Aside0.mk hr
  have HC := Aside0.mk hc
  have HWE := Aside0.mk hwe
  have HXL := Aside0.mk hn
  have HZ := Aside0.mk hz
  have HU := Aside0.mk hu
  have HSB := Aside0.mk hsB
  have HY := Aside0.mk hyb
  have H64 := Aside0.mk hn64
  clear hr hc hwe hxB hxl hps hp9 hx hn hk hq hr8 hkn hz hz1 hzB hp2 htn hy hyb hu hsB
  have c5 : decide ((500 : Int) < (b.length : Int)) = false := decide_eq_false (by omega)
  have c0 : ((n : Int) == 0) = false := by rw [beq_eq_false_iff_ne]; omega
  have c1 : ¬ (8 * (n : Int) = 0) := by omega
  go_enter Try.func5, Try.ntmps5
  go_wp2_with (first
    | (go_at_call 9; refine (page_known _).mono ?_; rintro e w1 ⟨rfl, hB⟩; have HB1 := Aside0.mk hB; clear hB)
    | (go_at_call 10; have hc := page_Wrap.calls 90000 A c b x 0 _ (Kd.C_below HR.out HB1.out) HC.out HWE.out; (with_reducible refine hc.mono ?_); clear hc; rintro e w2 ⟨v2, rfl, ho, hB2⟩; obtain ⟨gW, cW, rfl, hgW, hcW, hOW⟩ := own_form ho (by rw [← HXL.out]; omega); rw [← HXL.out] at hcW ⊢; have HOW := Aside0.mk hOW; have HB2 := Aside0.mk (below_step HB1.out hB2); have HG := Aside0.mk (Nat.le_trans HB1.out.size hgW); have hcl := hOW.cell (j := q) (by rw [← HXL.out]; exact hqn); have hfr := hOW.free q; rw [← HZ.out] at hcl; clear ho hB2 hOW)
    | (go_at_call 14; rw [HY.out]; have hOs := HOW.out.poke (j := q) (by rw [← HXL.out]; exact hqn) y; have hln : (x.set q y).length = n := (by rw [List.length_set, HXL.out]); have hc := page_unwrap (some ⟨gW, 0, none⟩) cW (x.set q y) _ hOs.reads (by rw [hln]; exact hcW) HSB.out (by rw [hln]; have := H64.out; omega); rw [HU.out, hln] at hc; (with_reducible refine hc.mono ?_); clear hc; rintro e w3 ⟨v3, rfl, ho, hB3⟩; obtain ⟨A3, c3, rfl, hc3, hC3⟩ := Kd.R_reads ho; have HB3 := Aside0.mk ((HB2.out.setCell (p := ⟨gW, q, none⟩) HG.out (.int .u8 y)).trans (hB3.mono (by have := HB2.out.size; simpa using this))); clear ho hB3 hOs hc3 hC3)
    | fail)
  all_goals go_ret
  all_goals exact ⟨by simp, HB3.out⟩
theorem norialaw13_PageTurned.walk (a0 : Option Addr) (len0 cap0 : Nat) (z0 : List Int) (a1 : Int) (w : World)
    (w0 : (a0 = none ∧ len0 = 0 ∧ cap0 = 0 ∧ z0 = []) ∨ ∃ x, a0 = some x ∧ len0 ≤ cap0 ∧ cap0 ≤ maxLen ∧ z0.length = cap0 ∧ (∀ i, i < z0.length → w.cell? (x.add i) = some (.int .u8 (z0.getD i 0))) ∧ ∀ n ∈ z0, (Lit.int .u8 n).wf = true) (y0 : len0 * 1 ≤ 140737488351232) (w1 : (Lit.int .u16 a1).wf = true) :
    Calls Try.prog 5 #[.slice a0 len0 cap0, .int .u16 a1] w fun e w' => e = .returned (.bool true) ∧ Below w.heap.size w w' := by
  obtain ⟨l0, rfl, hr0, hm0, hw0, hc0⟩ := ReadsInt.ofRowC w0
  by_cases h5 : 500 < l0.length
  · exact page_turned_long a0 cap0 l0 a1 w h5
  · obtain ⟨h0, h1⟩ := Go.bounds_u16 w1
    obtain ⟨m, rfl⟩ := Int.eq_ofNat_of_zero_le h0
    exact page_turned a0 cap0 l0 m w (Kd.C_of_reads (d := (0 : Int)) (h1 := fun _ => rfl) hr0) hc0 (Num.isB_of_wf hw0) (by omega) (by omega)
end Go.Proofs.Ytpaiigonagiemaa.PAll
