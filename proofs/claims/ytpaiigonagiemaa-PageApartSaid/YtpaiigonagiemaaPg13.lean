/- PageApart walked. -/
import Derived.Test.YtpaiigonagiemaaPg6
import Derived.Test.YtpaiigonagiemaaPg11
namespace Go.Proofs.Ytpaiigonagiemaa.PAll
open Go.Proofs.Ytpaiigonagiemaa.Help
open Go.RowKit Go.Proofs.YtpaiigonagiemaaW.PrintWords Go.Proofs.YtpaiigonagiemaaW.PrintLast Go.Proofs.YtpaiigonagiemaaW.PrintMore
open Go.Proofs.Ytpaiigonagiemaa.Num (isB enc psz wrapB unwrapB isB_append wrapB_length wrapB_isB unwrap_wrap size_eq psz_fits unwrapB_or)
set_option linter.unusedVariables false
set_option linter.unusedSimpArgs false
theorem rblk_apart (B : List Int) (x y : Int) (wa wb : List Int) {n m i : Nat} (hi : i < n) (h : ∀ q : Nat, q < m → y + (q : Int) ≠ x + (i : Int)) : rblk B (pgW x wa n ++ pgW y wb m) (x + (i : Int)) = (wa.drop (i * 64)).take 64 := by
  have hg : (pgW x wa n ++ pgW y wb m)[i]? = some (x + (i : Int), (wa.drop (i * 64)).take 64) := by
    rw [List.getElem?_append_left (by rw [pgW_length]; exact hi)]
    exact pgW_get x wa hi
  have hl : (pgW x wa n ++ pgW y wb m).length = n + m := by rw [List.length_append, pgW_length, pgW_length]
  unfold rblk
  rw [hl, lastAt_some hg rfl (n + m) (by omega) (fun j' x' h1 h2 hx' => by
    by_cases e : j' < n
    · rw [List.getElem?_append_left (by rw [pgW_length]; exact e), pgW_get x wa e] at hx'
      obtain rfl := Option.some.inj hx'
      show x + (j' : Int) ≠ x + (i : Int)
      omega
    · obtain ⟨q, rfl⟩ : ∃ q, j' = n + q := ⟨j' - n, by omega⟩
      rw [List.getElem?_append_right (by rw [pgW_length]; omega), pgW_length, Nat.add_sub_cancel_left, pgW_get y wb (show q < m by omega)] at hx'
      obtain rfl := Option.some.inj hx'
      exact h q (by omega))]
  rfl
/-- A page is read as it was, where the one written behind it does not touch it. -/
theorem pgR_apart (B : List Int) (x y : Int) (wa wb : List Int) (n m : Nat) (h : ∀ i q : Nat, i < n → q < m → y + (q : Int) ≠ x + (i : Int)) : ∀ k, k ≤ n → pgR B (pgW x wa n ++ pgW y wb m) x k = wa.take (k * 64)
  | 0, _ => by simp [pgR]
  | k + 1, hk => by
    unfold pgR
    rw [pgR_apart B x y wa wb n m h k (by omega), rblk_apart B x y wa wb (show k < n by omega) (fun q hq => h k q (by omega) hq), Nat.add_mul, Nat.one_mul, List.take_add]
theorem psz_le3 {n : Nat} (h : n ≤ 120) : 1 ≤ psz n ∧ psz n ≤ 3 := by have := Num.enc_len2 (n := n) (by omega); unfold psz; omega
theorem page_apart_long (A1 A2 : Option Addr) (c1 c2 : Nat) (a b : List Int) (t1 t2 : Int) (w : World) (h5 : 120 < a.length ∨ 120 < b.length) :
    Calls Try.prog 7 #[.slice A1 a.length c1, .slice A2 b.length c2, .int .u8 t1, .int .u8 t2] w fun e w' => e = .returned (.bool true) ∧ Below w.heap.size w w' := by
  by_cases ha : 120 < a.length
  · have h1 : decide ((120 : Int) < (a.length : Int)) = true := decide_eq_true (by omega)
    go_enter Try.func7, Try.ntmps7
    go_wp2_with (first
      | (go_at_call 9; refine (page_known _).mono ?_; rintro e w1 ⟨rfl, hB⟩; have HBw := Aside0.mk hB; clear hB)
      | fail)
    all_goals go_ret
    all_goals exact ⟨by simp, HBw.out⟩
  · have h1 : decide ((120 : Int) < (a.length : Int)) = false := decide_eq_false (by omega)
    have h2 : decide ((120 : Int) < (b.length : Int)) = true := decide_eq_true (by omega)
    go_enter Try.func7, Try.ntmps7
    go_wp2_with (first
      | (go_at_call 9; refine (page_known _).mono ?_; rintro e w1 ⟨rfl, hB⟩; have HBw := Aside0.mk hB; clear hB)
      | fail)
    all_goals go_ret
    all_goals exact ⟨by simp, HBw.out⟩
set_option maxRecDepth 100000 in
set_option maxHeartbeats 4000000 in
theorem page_apart (A1 A2 : Option Addr) (c1 c2 : Nat) (a b : List Int) (t1 t2 : Nat) (w : World) (hr1 : Kd.C (Kd.int .u8) w A1 a.length a) (hc1 : a.length ≤ c1) (hB1 : isB a) (h1 : a.length ≤ 120)
    (hr2 : Kd.C (Kd.int .u8) w A2 b.length b) (hc2 : b.length ≤ c2) (hB2 : isB b) (h2 : b.length ≤ 120) (ht1 : t1 ≤ 255) (ht2 : t2 ≤ 255) :
    Calls Try.prog 7 #[.slice A1 a.length c1, .slice A2 b.length c2, .int .u8 (t1 : Int), .int .u8 (t2 : Int)] w fun e w' => e = .returned (.bool true) ∧ Below w.heap.size w w' := by
  obtain ⟨x, hx⟩ : ∃ x, x = t1 % 12 := ⟨_, rfl⟩
  obtain ⟨y, hy⟩ : ∃ y, y = t2 % 12 := ⟨_, rfl⟩
  have hm1 : Int.tmod (t1 : Int) 12 = (x : Int) := by rw [Int.tmod_eq_emod_of_nonneg (by omega)]; omega
  have hm2 : Int.tmod (t2 : Int) 12 = (y : Int) := by rw [Int.tmod_eq_emod_of_nonneg (by omega)]; omega
  have hx12 : x < 12 := by omega
  have hy12 : y < 12 := by omega
  have hwx : IntKind.i64.wrap (x : Int) = (x : Int) := wrapI (by omega) (by omega)
  have hwy : IntKind.i64.wrap (y : Int) = (y : Int) := wrapI (by omega) (by omega)
  have HS1 := Aside0.mk (size_eq (n := a.length) (by omega) 12 (by omega))
  have HS2 := Aside0.mk (size_eq (n := b.length) (by omega) 12 (by omega))
  have HW1 := Aside0.mk (fun (w0 W : World) D R (h : Mix w0 W D R) i p B L hi hl at_ h0 hr hf => page_write (A := A1) (c := c1) h (i := i) (p := p) (n := 16) (B := B) (L := L) hi hl (at_ := at_) h0 hr hc1 hB1 (by omega) hf)
  have HW2 := Aside0.mk (fun (w0 W : World) D R (h : Mix w0 W D R) i p B L hi hl at_ h0 hr hf => page_write (A := A2) (c := c2) h (i := i) (p := p) (n := 16) (B := B) (L := L) hi hl (at_ := at_) h0 hr hc2 hB2 (by omega) hf)
  have hu1 := unwrap_wrap hB1 (by omega)
  have hu2 := unwrap_wrap hB2 (by omega)
  have hl1 := wrapB_length a
  have hl2 := wrapB_length b
  have hb1 := wrapB_isB hB1
  have hb2 := wrapB_isB hB2
  have hn3 := psz_le3 h1
  have hm3 := psz_le3 h2
  generalize wrapB a = wa at *
  generalize wrapB b = wb at *
  generalize psz a.length = n at *
  generalize psz b.length = m at *
  obtain ⟨B0, hB0⟩ : ∃ B0 : List Int, B0 = List.replicate (16 * 64) 0 := ⟨_, rfl⟩
  obtain ⟨P, ep, hZ⟩ : ∃ P ep, unwrapB (pgR B0 (pgW (x : Int) wa n ++ pgW (y : Int) wb m) (x : Int) n) = (P, ep) := ⟨_, _, rfl⟩
  have hPA : Aside0 (x + n ≤ y ∨ y + m ≤ x → P = a ∧ ep = 0) := ⟨fun h => by
    rw [pgR_apart B0 x y wa wb n m (fun i q hi hq => by omega) n (Nat.le_refl _), List.take_of_length_le (by omega), hu1] at hZ
    exact ⟨(congrArg (·.1) hZ).symm, (congrArg (·.2) hZ).symm⟩⟩
  have hPC : Aside0 (x = y → n = m → P = b ∧ ep = 0) := ⟨fun e1 e2 => by
    subst e1 e2
    rw [pgR_pgW B0 (pgW (x : Int) wa n) (x : Int) wb n n (Nat.le_refl _), List.take_of_length_le (by omega), hu2] at hZ
    exact ⟨(congrArg (·.1) hZ).symm, (congrArg (·.2) hZ).symm⟩⟩
  have hPO : Aside0 ((P = [] ∧ ep = 12) ∨ ep = 0) := ⟨by
    rcases unwrapB_or (pgR B0 (pgW (x : Int) wa n ++ pgW (y : Int) wb m) (x : Int) n) with e | e
    · rw [hZ] at e
      exact .inl ⟨congrArg (·.1) e, congrArg (·.2) e⟩
    · rw [hZ] at e
      exact .inr e⟩
  have hQ : Aside0 (unwrapB (pgR B0 (pgW (x : Int) wa n ++ pgW (y : Int) wb m) (y : Int) m) = (b, 0)) := ⟨by
    rw [pgR_pgW B0 (pgW (x : Int) wa n) (y : Int) wb m m (Nat.le_refl _), List.take_of_length_le (by omega), hu2]⟩
  have HLB : Aside0 (∀ z ∈ pgW (x : Int) wa n ++ pgW (y : Int) wb m, isB z.2) := ⟨fun z hz => by
    rcases List.mem_append.1 hz with h | h
    · exact pgW_isB hb1 _ _ z h
    · exact pgW_isB hb2 _ _ z h⟩
  have HLL : Aside0 ((pgW (x : Int) wa n ++ pgW (y : Int) wb m).length ≤ 6) := ⟨by rw [List.length_append, pgW_length, pgW_length]; omega⟩
  have HL1 : Aside0 ((pgW (x : Int) wa n).length ≤ 6) := ⟨by rw [pgW_length]; omega⟩
  have HZ := Aside0.mk hZ
  have HB0 := Aside0.mk hB0
  have HR1 := Aside0.mk hr1
  have HR2 := Aside0.mk hr2
  clear hr1 hr2 hc1 hc2 hB1 hB2 hu1 hu2 hl1 hl2 hb1 hb2 hZ hB0 hx hy
  have d1 : decide ((120 : Int) < (a.length : Int)) = false := decide_eq_false (by omega)
  have d2 : decide ((120 : Int) < (b.length : Int)) = false := decide_eq_false (by omega)
  have d3 : decide ((n : Int) < 1) = false := decide_eq_false (by omega)
  have d4 : decide ((3 : Int) < (n : Int)) = false := decide_eq_false (by omega)
  have d5 : decide ((m : Int) < 1) = false := decide_eq_false (by omega)
  have d6 : decide ((3 : Int) < (m : Int)) = false := decide_eq_false (by omega)
  have hw1 : IntKind.i64.wrap ((x : Int) + (n : Int)) = (x : Int) + (n : Int) := wrapI (by omega) (by omega)
  have hw2 : IntKind.i64.wrap ((y : Int) + (m : Int)) = (y : Int) + (m : Int) := wrapI (by omega) (by omega)
  have HX := Aside0.mk (Mix.none_ (Below.refl w.heap.size w))
  go_enter Try.func7, Try.ntmps7
  go_upto_region 16 with (first
    | (go_at_call 9; refine (page_known _).mono ?_; rintro e w1 ⟨rfl, hB⟩; replace HX := Aside0.mk (HX.out.below hB); clear hB)
    | (go_at_call 16; refine (show Calls Try.prog 16 #[.int .i64 16] _ _ from HX.out.new 0 rfl (n := 16) (by decide) (by decide)).mono ?_; rintro e w2 ⟨p, rfl, h⟩; rw [← HB0.out] at h; replace HX := Aside0.mk h; clear h)
    | (go_at_call_of 12 (Value.int IntKind.i64 (a.length : Int)); refine (page_Size.calls 12 _ _ _ HS1.out).mono ?_; rintro e w3 ⟨rfl, hB⟩; replace HX := Aside0.mk (HX.out.below hB); clear hB)
    | (go_at_call_of 12 (Value.int IntKind.i64 (b.length : Int)); refine (page_Size.calls 12 _ _ _ HS2.out).mono ?_; rintro e w4 ⟨rfl, hB⟩; replace HX := Aside0.mk (HX.out.below hB); clear hB)
    | (go_at_call_of 17 (Value.slice A1 a.length c1); refine (HW1.out _ _ _ _ HX.out 0 p _ _ rfl (by simp) _ (by omega) (Kd.C_below HR1.out HX.out.under) (by omega)).mono ?_; rintro e w5 ⟨rfl, gq, oq, h⟩; rw [List.nil_append] at h; replace HX := Aside0.mk h; clear h)
    | (go_at_call_of 17 (Value.slice A2 b.length c2); refine (HW2.out _ _ _ _ HX.out 0 p _ _ rfl (by have := HL1.out; omega) _ (by omega) (Kd.C_below HR2.out HX.out.under) (by omega)).mono ?_; rintro e w6 ⟨rfl, gq2, oq2, h⟩; replace HX := Aside0.mk h; clear h)
    | (go_at_call_of 18 (Value.int IntKind.i64 (n : Int)); have hc := page_read HX.out (i := 0) (p := p) (n := 16) rfl (by have := HLL.out; omega) (by rw [HB0.out]; exact rep_isB _ (by decide) (by decide)) HLB.out (at_ := (x : Int)) (m := n) (by omega) (by omega) (by omega); rw [HZ.out] at hc; (with_reducible refine hc.mono ?_); clear hc; rintro e w7 ⟨v7, rfl, ho, hB⟩; obtain ⟨A7, c7, rfl, hc7, hC7⟩ := Kd.R_reads ho; have HC7 : Aside0 (Kd.C (Kd.int .u8) w7 A7 P.length P) := ⟨hC7⟩; replace HX := Aside0.mk (HX.out.below hB); clear hB ho hc7 hC7)
    | (go_at_call 18; have hc := page_read HX.out (i := 0) (p := p) (n := 16) rfl (by have := HLL.out; omega) (by rw [HB0.out]; exact rep_isB _ (by decide) (by decide)) HLB.out (at_ := (y : Int)) (m := m) (by omega) (by omega) (by omega); rw [hQ.out] at hc; (with_reducible refine hc.mono ?_); clear hc; rintro e w8 ⟨v8, rfl, ho, hB⟩; obtain ⟨A8, c8, rfl, hc8, hC8⟩ := Kd.R_reads ho; have hs8 := C_str (c := c8) hC8; have hs7 := C_str (c := c7) (Kd.C_below HC7.out hB); replace HX := Aside0.mk (HX.out.below hB); have hsa := C_str (c := c1) (Kd.C_below HR1.out HX.out.under); have hsb := C_str (c := c2) (Kd.C_below HR2.out HX.out.under); clear hB ho hc8 hC8)
    | fail)
  by_cases ha : x + n ≤ y
  · obtain ⟨rfl, rfl⟩ := hPA.out (.inl ha)
    have e1 : decide ((x : Int) + (n : Int) ≤ (y : Int)) = true := decide_eq_true (by omega)
    go_wp2
    all_goals go_ret
    all_goals exact ⟨by simp, HX.out.under⟩
  · have e1 : decide ((x : Int) + (n : Int) ≤ (y : Int)) = false := decide_eq_false (by omega)
    by_cases hb : y + m ≤ x
    · obtain ⟨rfl, rfl⟩ := hPA.out (.inr hb)
      have e2 : decide ((y : Int) + (m : Int) ≤ (x : Int)) = true := decide_eq_true (by omega)
      go_wp2
      all_goals go_ret
      all_goals exact ⟨by simp, HX.out.under⟩
    · have e2 : decide ((y : Int) + (m : Int) ≤ (x : Int)) = false := decide_eq_false (by omega)
      by_cases hxy : x = y
      · have e3 : ((x : Int) == (y : Int)) = true := by rw [beq_iff_eq]; omega
        by_cases hnm : n = m
        · have e4 : ((n : Int) == (m : Int)) = true := by rw [beq_iff_eq]; omega
          obtain ⟨rfl, rfl⟩ := hPC.out hxy hnm
          go_wp2
          all_goals go_ret
          all_goals exact ⟨by simp, HX.out.under⟩
        · have e4 : ((n : Int) == (m : Int)) = false := by rw [beq_eq_false_iff_ne]; omega
          rcases hPO.out with ⟨rfl, rfl⟩ | rfl
          · go_wp2
            all_goals go_ret
            all_goals exact ⟨by simp, HX.out.under⟩
          · go_wp2
            all_goals go_ret
            all_goals exact ⟨by simp, HX.out.under⟩
      · have e3 : ((x : Int) == (y : Int)) = false := by rw [beq_eq_false_iff_ne]; omega
        rcases hPO.out with ⟨rfl, rfl⟩ | rfl
        · go_wp2
          all_goals go_ret
          all_goals exact ⟨by simp, HX.out.under⟩
        · go_wp2
          all_goals go_ret
          all_goals exact ⟨by simp, HX.out.under⟩
theorem norialaw13_PageApart.walk (a0 : Option Addr) (len0 cap0 : Nat) (z0 : List Int) (a1 : Option Addr) (len1 cap1 : Nat) (z1 : List Int) (a2 a3 : Int) (w : World)
    (w0 : (a0 = none ∧ len0 = 0 ∧ cap0 = 0 ∧ z0 = []) ∨ ∃ x, a0 = some x ∧ len0 ≤ cap0 ∧ cap0 ≤ maxLen ∧ z0.length = cap0 ∧ (∀ i, i < z0.length → w.cell? (x.add i) = some (.int .u8 (z0.getD i 0))) ∧ ∀ n ∈ z0, (Lit.int .u8 n).wf = true) (y0 : len0 * 1 ≤ 140737488351232)
    (w1 : (a1 = none ∧ len1 = 0 ∧ cap1 = 0 ∧ z1 = []) ∨ ∃ x, a1 = some x ∧ len1 ≤ cap1 ∧ cap1 ≤ maxLen ∧ z1.length = cap1 ∧ (∀ i, i < z1.length → w.cell? (x.add i) = some (.int .u8 (z1.getD i 0))) ∧ ∀ n ∈ z1, (Lit.int .u8 n).wf = true) (y1 : len1 * 1 ≤ 140737488351232)
    (w2 : (Lit.int .u8 a2).wf = true) (w3 : (Lit.int .u8 a3).wf = true) :
    Calls Try.prog 7 #[.slice a0 len0 cap0, .slice a1 len1 cap1, .int .u8 a2, .int .u8 a3] w fun e w' => e = .returned (.bool true) ∧ Below w.heap.size w w' := by
  obtain ⟨l0, rfl, hr0, hm0, hw0, hc0⟩ := ReadsInt.ofRowC w0
  obtain ⟨l1, rfl, hr1, hm1, hw1, hc1⟩ := ReadsInt.ofRowC w1
  by_cases h5 : 120 < l0.length ∨ 120 < l1.length
  · exact page_apart_long a0 a1 cap0 cap1 l0 l1 a2 a3 w h5
  · obtain ⟨h0, h1⟩ := Go.bounds_u8 w2
    obtain ⟨m, rfl⟩ := Int.eq_ofNat_of_zero_le h0
    obtain ⟨h2, h3⟩ := Go.bounds_u8 w3
    obtain ⟨m2, rfl⟩ := Int.eq_ofNat_of_zero_le h2
    exact page_apart a0 a1 cap0 cap1 l0 l1 m m2 w (Kd.C_of_reads (d := (0 : Int)) (h1 := fun _ => rfl) hr0) hc0 (Num.isB_of_wf hw0) (by omega) (Kd.C_of_reads (d := (0 : Int)) (h1 := fun _ => rfl) hr1) hc1 (Num.isB_of_wf hw1) (by omega) (by omega) (by omega)
end Go.Proofs.Ytpaiigonagiemaa.PAll
