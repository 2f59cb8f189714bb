/- The reference's WritePage and ReadPage over a system of devices. -/
import Derived.Test.YtpaiigonagiemaaPg6
import Derived.Test.YtpaiigonagiemaaPg11
namespace Go.Proofs.Ytpaiigonagiemaa.PAll
open Go.Proofs.Ytpaiigonagiemaa.Help
open Go.RowKit Go.Proofs.YtpaiigonagiemaaW.PrintWords Go.Proofs.YtpaiigonagiemaaW.PrintLast Go.Proofs.YtpaiigonagiemaaW.PrintMore
open Go.Proofs.Ytpaiigonagiemaa.Num (isB enc psz wrapB unwrapB isB_append isB_take isB_drop isB_nil rwrap_eq runwrap_eq psz_fits wrapB_length)
set_option linter.unusedVariables false
set_option linter.unusedSimpArgs false
set_option maxRecDepth 100000 in
set_option maxHeartbeats 4000000 in
theorem ref_page_write {w0 W : World} {D : Nat → Option MSt} {R : List (Nat × Obj)} (h : Mix w0 W D R) {i p n : Nat} {B : List Int} {L : List (Int × List Int)} (hi : D i = some ⟨true, p, n, B, L⟩) (hl : L.length < 4000000000) {at_ : Int} (h0 : 0 ≤ at_)
    {A : Option Addr} {c : Nat} {b : List Int} (hr : Kd.C (Kd.int .u8) W A b.length b) (hc : b.length ≤ c) (hB : isB b) (h8 : b.length ≤ 8192) (hfit : at_ + (psz b.length : Int) ≤ n) :
    Calls Try.prog 20 #[.pointer (some ⟨p, 0, none⟩), .int .i64 at_, .slice A b.length c] W fun e w' => e = .returned (.int .i64 0) ∧ ∃ g o, Mix w0 w' (updM D i ⟨true, p, n, B, L ++ pgW at_ (wrapB b) (psz b.length)⟩) ((g, o) :: R) := by
  have ok := h.ok hi
  have hn4 : n ≤ 1024 := ok.nm
  have hw := Aside0.mk (noriaref18_Wrap.calls 90000 A c b (wrapB b) 0 W hr hc (rwrap_eq hB h8 90000 (by omega)))
  have hwl := wrapB_length b
  have hps := psz_fits b.length
  have hple := psz_le h8
  generalize wrapB b = x at *
  generalize psz b.length = m at *
  have HX := Aside0.mk h
  have HI := Aside0.mk hi
  have HWL := Aside0.mk hwl
  have HLl := Aside0.mk hl
  have hm1 : 1 ≤ m := by omega
  have hbl := Aside0.mk (fun (W' : World) (hB' : Below W.heap.size W W') => (h.below hB').rblocks hi)
  have hdv : (((m * 64 : Nat) : Int).tdiv 64) = (m : Int) := by rw [Int.natCast_mul]; exact Int.mul_tdiv_cancel _ (by decide)
  have hws : IntKind.i64.wrap ((n : Int) - at_) = (n : Int) - at_ := wrapI (by omega) (by omega)
  have c1 : decide (at_ < 0) = false := decide_eq_false (by omega)
  have c2 : decide ((n : Int) < at_) = false := decide_eq_false (by omega)
  have c3 : decide ((n : Int) - at_ < (m : Int)) = false := decide_eq_false (by omega)
  clear h hi hr hwl ok hl
  go_enter Try.func20, Try.ntmps20
  go_wp2_with (first
    | (go_at_call 11; refine hw.out.mono ?_; rintro e w1 ⟨v0, rfl, ho, hBw⟩; obtain ⟨gW, cW, rfl, hgW, hcW, hOW⟩ := own_form ho (by rw [HWL.out]; omega); rw [HWL.out] at hcW ⊢; have HOW := Aside0.mk hOW; have HBW := Aside0.mk hBw; clear ho hOW hBw)
    | (go_at_call 43; refine (hbl.out _ HBW.out).mono ?_; rintro e w2 ⟨rfl, rfl⟩)
    | fail)
  obtain ⟨oW, hoW, hOx⟩ := own_obj HOW.out
  have HO := Aside0.mk hOx
  have HM := Aside0.mk (HX.out.row HBW.out hoW hgW)
  clear hoW hOx
  obtain ⟨i0, hi0, _, hsz0, _⟩ := info_parts info5
  have HI0 := Aside0.mk hi0
  have HSZ0 := Aside0.mk hsz0
  clear hi0 hsz0
  go_loopg [9] m (fun gg s9 wr => ∃ kk : Nat, kk ≤ m ∧ m - kk ≤ gg ∧ s9 = .int .i64 kk ∧ Aside0 (Mix w0 wr (updM D i ⟨true, p, n, B, L ++ pgW at_ x kk⟩) ((gW, oW) :: R)))
  case atStart =>
    refine ⟨0, Nat.zero_le _, by omega, rfl, ⟨?_⟩⟩
    show Mix w0 w1 (updM D i ⟨true, p, n, B, L ++ []⟩) _
    rw [List.append_nil, updM_self HI.out]
    exact HM.out
  case round =>
    obtain ⟨kk, hkk, hgg, rfl, HMx⟩ := hrel
    by_cases hlt : kk < m
    · have d1 : decide ((kk : Int) < (m : Int)) = true := decide_eq_true (by omega)
      have hwa : IntKind.i64.wrap (at_ + (kk : Int)) = at_ + (kk : Int) := wrapI (by omega) (by omega)
      have hwk : IntKind.i64.wrap ((kk : Int) + 1) = (kk : Int) + 1 := wrapI (by omega) (by omega)
      have hw6 : IntKind.i64.wrap (64 * (kk : Int)) = 64 * (kk : Int) := wrapI (by omega) (by omega)
      have hw7 : IntKind.i64.wrap (64 * (kk : Int) + 64) = 64 * (kk : Int) + 64 := wrapI (by omega) (by omega)
      have hO := HO.out wr (HMx.out.kept (List.Mem.head _))
      obtain ⟨A6, hcut6, hA6, hC6⟩ := print_mid_of (P := Try.prog) (Value.int .u8) 0 22 5 .i64 .i64 Try.underlying22 HI0.out HSZ0.out (some ⟨gW, 0, none⟩) cW x (64 * (kk : Int)) (64 * (kk : Int) + 64) (by omega) (by omega) (by rw [HWL.out]; omega) (by rw [HWL.out]; exact hcW)
      have hR6 := Kd.C_of_reads (h1 := fun _ => rfl) (hA6 _ (Kd.reads_of_C hO.reads))
      rw [HWL.out] at hcut6
      have hbk : (x.take (64 * (kk : Int) + 64).toNat).drop (64 * (kk : Int)).toNat = (x.drop (kk * 64)).take 64 := by
        rw [show (64 * (kk : Int) + 64).toNat = kk * 64 + 64 from by omega, show (64 * (kk : Int)).toNat = kk * 64 from by omega, List.drop_take, Nat.add_sub_cancel_left]
      rw [hbk] at hcut6 hR6 hC6
      obtain ⟨y, hy⟩ : ∃ y, y = (x.drop (kk * 64)).take 64 := ⟨_, rfl⟩
      rw [← hy] at hcut6 hR6 hC6
      have hy64 : y.length = 64 := by rw [hy, List.length_take, List.length_drop, HWL.out]; omega
      have HR6 : Aside0 (Kd.C (Kd.int .u8) wr A6 y.length y) := ⟨hR6⟩
      have HY := Aside0.mk hy
      have HY6 := Aside0.mk hy64
      rw [hy64] at hcut6 hC6
      have HC6 := Aside0.mk hC6
      clear hO hA6 hR6 hC6 hbk hy hy64
      go_wp2_with (first
        | (go_at_call 44; have hc := HMx.out.rwrite (i := i) (updM_same _ _ _) (by rw [List.length_append, pgW_length]; have := HLl.out; omega) (j := at_ + (kk : Int)) (by omega) (by omega) (c := cW - 64 * kk) HR6.out (by rw [HY6.out]; have := HC6.out; omega) HY6.out; rw [HY6.out] at hc; (with_reducible refine hc.mono ?_); clear hc; rintro e w2 ⟨rfl, h⟩; have HM2 := Aside0.mk h; clear h)
        | fail)
      all_goals go_roundg (m - (kk + 1))
      all_goals first
        | omega
        | (refine ⟨kk + 1, by omega, by omega, by go_num, ⟨?_⟩⟩
           have q := HM2.out
           rw [updM_updM, HY.out, List.append_assoc] at q
           exact q)
    · have : kk = m := by omega
      subst this
      have d1 : decide ((kk : Int) < (kk : Int)) = false := decide_eq_false (by omega)
      have HM3 := HMx
      go_wp2
      all_goals go_ret
      all_goals exact ⟨rfl, gW, oW, HM3.out⟩
theorem ref_page_write_bad {w0 W : World} {D : Nat → Option MSt} {R : List (Nat × Obj)} (h : Mix w0 W D R) {i p n : Nat} {B : List Int} {L : List (Int × List Int)} (hi : D i = some ⟨true, p, n, B, L⟩) {at_ : Int} (h1 : -9223372036854775808 ≤ at_)
    {A : Option Addr} {c : Nat} {b : List Int} (hr : Kd.C (Kd.int .u8) W A b.length b) (hc : b.length ≤ c) (hB : isB b) (h8 : b.length ≤ 8192) (hfit : ¬ (0 ≤ at_ ∧ at_ + (psz b.length : Int) ≤ n)) :
    Calls Try.prog 20 #[.pointer (some ⟨p, 0, none⟩), .int .i64 at_, .slice A b.length c] W fun e w' => e = .returned (.int .i64 9) ∧ Below W.heap.size W w' := by
  have ok := h.ok hi
  have hn4 : n ≤ 1024 := ok.nm
  have hw := Aside0.mk (noriaref18_Wrap.calls 90000 A c b (wrapB b) 0 W hr hc (rwrap_eq hB h8 90000 (by omega)))
  have hwl := wrapB_length b
  have hps := psz_fits b.length
  have hple := psz_le h8
  generalize wrapB b = x at *
  generalize psz b.length = m at *
  have HWL := Aside0.mk hwl
  have hm1 : 1 ≤ m := by omega
  have hbl := Aside0.mk (fun (W' : World) (hB' : Below W.heap.size W W') => (h.below hB').rblocks hi)
  have hdv : (((m * 64 : Nat) : Int).tdiv 64) = (m : Int) := by rw [Int.natCast_mul]; exact Int.mul_tdiv_cancel _ (by decide)
  clear h hi hr hwl ok
  by_cases ha : at_ < 0
  · have c1 : decide (at_ < 0) = true := decide_eq_true ha
    go_enter Try.func20, Try.ntmps20
    go_wp2_with (first
      | (go_at_call 11; refine hw.out.mono ?_; rintro e w1 ⟨v0, rfl, ho, hBw⟩; obtain ⟨gW, cW, rfl, hgW, hcW, hOW⟩ := own_form ho (by rw [HWL.out]; omega); rw [HWL.out] at hcW ⊢; have HBW := Aside0.mk hBw; clear ho hOW hBw)
      | fail)
    all_goals go_ret
    all_goals exact ⟨rfl, HBW.out⟩
  · have c1 : decide (at_ < 0) = false := decide_eq_false (by omega)
    by_cases hb : (n : Int) < at_
    · have c2 : decide ((n : Int) < at_) = true := decide_eq_true hb
      go_enter Try.func20, Try.ntmps20
      go_wp2_with (first
        | (go_at_call 11; refine hw.out.mono ?_; rintro e w1 ⟨v0, rfl, ho, hBw⟩; obtain ⟨gW, cW, rfl, hgW, hcW, hOW⟩ := own_form ho (by rw [HWL.out]; omega); rw [HWL.out] at hcW ⊢; have HBW := Aside0.mk hBw; clear ho hOW hBw)
        | (go_at_call 43; refine (hbl.out _ HBW.out).mono ?_; rintro e w2 ⟨rfl, rfl⟩)
        | fail)
      all_goals go_ret
      all_goals exact ⟨rfl, HBW.out⟩
    · have c2 : decide ((n : Int) < at_) = false := decide_eq_false hb
      have hws : IntKind.i64.wrap ((n : Int) - at_) = (n : Int) - at_ := wrapI (by omega) (by omega)
      have c3 : decide ((n : Int) - at_ < (m : Int)) = true := decide_eq_true (by omega)
      go_enter Try.func20, Try.ntmps20
      go_wp2_with (first
        | (go_at_call 11; refine hw.out.mono ?_; rintro e w1 ⟨v0, rfl, ho, hBw⟩; obtain ⟨gW, cW, rfl, hgW, hcW, hOW⟩ := own_form ho (by rw [HWL.out]; omega); rw [HWL.out] at hcW ⊢; have HBW := Aside0.mk hBw; clear ho hOW hBw)
        | (go_at_call 43; refine (hbl.out _ HBW.out).mono ?_; rintro e w2 ⟨rfl, rfl⟩)
        | fail)
      all_goals go_ret
      all_goals exact ⟨rfl, HBW.out⟩
theorem ref_page_read_bad {w0 W : World} {D : Nat → Option MSt} {R : List (Nat × Obj)} (h : Mix w0 W D R) {i p n : Nat} {B : List Int} {L : List (Int × List Int)} (hi : D i = some ⟨true, p, n, B, L⟩) {at_ m : Int} (hbad : m < 1 ∨ at_ < 0 ∨ (n : Int) < at_ ∨ (n : Int) - at_ < m) :
    Calls Try.prog 24 #[.pointer (some ⟨p, 0, none⟩), .int .i64 at_, .int .i64 m] W fun e w' => e = .returned (.tuple #[.slice none 0 0, .int .i64 9]) ∧ W = w' := by
  have hn4 : n ≤ 1024 := (h.ok hi).nm
  have hbl := Aside0.mk (h.rblocks hi)
  clear h hi
  by_cases c1 : m < 1
  · go_enter Try.func24, Try.ntmps24
    go_wp2_with (first | (go_at_call 43; refine hbl.out.mono ?_; rintro e w2 ⟨rfl, rfl⟩) | fail)
    all_goals first | (exfalso; omega) | skip
    all_goals go_ret2
    all_goals exact ⟨rfl, rfl⟩
  · have d1 : decide (m < 1) = false := decide_eq_false c1
    by_cases c2 : at_ < 0
    · go_enter Try.func24, Try.ntmps24
      go_wp2_with (first | (go_at_call 43; refine hbl.out.mono ?_; rintro e w2 ⟨rfl, rfl⟩) | fail)
      all_goals first | (exfalso; omega) | skip
      all_goals go_ret2
      all_goals exact ⟨rfl, rfl⟩
    · have d2 : decide (at_ < 0) = false := decide_eq_false c2
      by_cases c3 : (n : Int) < at_
      · go_enter Try.func24, Try.ntmps24
        go_wp2_with (first | (go_at_call 43; refine hbl.out.mono ?_; rintro e w2 ⟨rfl, rfl⟩) | fail)
        all_goals first | (exfalso; omega) | skip
        all_goals go_ret2
        all_goals exact ⟨rfl, rfl⟩
      · have d3 : decide ((n : Int) < at_) = false := decide_eq_false c3
        have hws : IntKind.i64.wrap ((n : Int) - at_) = (n : Int) - at_ := wrapI (by omega) (by omega)
        have d4 : decide ((n : Int) - at_ < m) = true := decide_eq_true (by omega)
        go_enter Try.func24, Try.ntmps24
        go_wp2_with (first | (go_at_call 43; refine hbl.out.mono ?_; rintro e w2 ⟨rfl, rfl⟩) | fail)
        all_goals first | (exfalso; omega) | skip
        all_goals go_ret2
        all_goals exact ⟨rfl, rfl⟩
set_option maxRecDepth 100000 in
set_option maxHeartbeats 4000000 in
theorem ref_page_read {w0 W : World} {D : Nat → Option MSt} {R : List (Nat × Obj)} (h : Mix w0 W D R) {i p n : Nat} {B : List Int} {L : List (Int × List Int)} (hi : D i = some ⟨true, p, n, B, L⟩) (hl : L.length < 4294967296) (hBB : isB B) (hLB : ∀ x ∈ L, isB x.2) {at_ : Int} {m : Nat} (h0 : 0 ≤ at_) (h1 : 1 ≤ m) (hfit : at_ + (m : Int) ≤ n) :
    Calls Try.prog 24 #[.pointer (some ⟨p, 0, none⟩), .int .i64 at_, .int .i64 m] W fun e w' => ∃ v0_ : Value, e = .returned (.tuple #[v0_, .int .i64 (unwrapB (pgR B L at_ m)).2]) ∧ Kd.R (Kd.int .u8) 5 w' W.heap.size (fun _ => True) v0_ (unwrapB (pgR B L at_ m)).1 ∧ Below W.heap.size W w' := by
  have ok := h.ok hi
  have hn4 : n ≤ 1024 := ok.nm
  have hlen := pgR_length (L := L) ok.len (fun x hx => (ok.wait x hx).2.2) h0
  have HLEN := Aside0.mk hlen
  have HX := Aside0.mk h
  have HI := Aside0.mk hi
  have HL := Aside0.mk hl
  have HIB := Aside0.mk (pgR_isB hBB hLB at_)
  have hbl := Aside0.mk (h.rblocks hi)
  have d1 : decide ((m : Int) < 1) = false := decide_eq_false (by omega)
  have d2 : decide (at_ < 0) = false := decide_eq_false (by omega)
  have d3 : decide ((n : Int) < at_) = false := decide_eq_false (by omega)
  have hws : IntKind.i64.wrap ((n : Int) - at_) = (n : Int) - at_ := wrapI (by omega) (by omega)
  have d4 : decide ((n : Int) - at_ < (m : Int)) = false := decide_eq_false (by omega)
  clear h hi hl hlen ok hBB hLB
  go_enter Try.func24, Try.ntmps24
  go_wp2_with (first | (go_at_call 43; refine hbl.out.mono ?_; rintro e w2 ⟨rfl, rfl⟩) | fail)
  all_goals first | (exfalso; omega) | skip
  go_loopg [8, 9] m (fun gg s8 s9 wr => ∃ kk : Nat, kk ≤ m ∧ m - kk ≤ gg ∧ s9 = .int .i64 kk ∧ Aside0 (Kd.R (Kd.int .u8) 5 wr W.heap.size (fun _ => True) s8 (pgR B L at_ kk)) ∧ Aside0 (Below W.heap.size W wr))
  case atStart => exact ⟨0, Nat.zero_le _, by omega, rfl, ⟨Kd.R_nil _ _ _ _ _⟩, ⟨Below.refl _ _⟩⟩
  case round =>
    obtain ⟨kk, hkk, hgg, rfl, HO, HB⟩ := hrel
    by_cases hlt : kk < m
    · have e1 : decide ((kk : Int) < (m : Int)) = true := decide_eq_true (by omega)
      have hwa : IntKind.i64.wrap (at_ + (kk : Int)) = at_ + (kk : Int) := wrapI (by omega) (by omega)
      have hwk : IntKind.i64.wrap ((kk : Int) + 1) = (kk : Int) + 1 := wrapI (by omega) (by omega)
      have ok2 := HX.out.ok HI.out
      have hrl := Aside0.mk (rblk_length (L := L) (j := at_ + (kk : Int)) ok2.len (fun x hx => (ok2.wait x hx).2.2) (by omega) (by simp only; omega))
      have hkl := Aside0.mk (HLEN.out kk (by omega))
      clear ok2
      go_wp2_with (first
        | (go_at_call 49; refine ((HX.out.below HB.out).rread HI.out HL.out (j := at_ + (kk : Int)) (by omega) (by omega)).mono ?_; rintro e w3 ⟨gx, cx, rfl, hgx, hcx, hOx, hBx⟩; have HOx := Aside0.mk hOx; have HO3 := Aside0.mk (Kd.R_below HO.out hBx); have HB3 := Aside0.mk (below_step HB.out hBx); clear hOx hBx hgx)
        | ((with_reducible refine gate_builtin (b := .append) (xs := #[.tmp 45, .tmp 46]) rfl ?_); at_builtin; refine Kd.R_append_rows (Kd.int .u8) (w0 := W) W.heap.size rfl (.tmp 45) (.tmp 46) 22 5 (.int .u8 0) 1 rfl Try.underlying22 info5 rfl (by decide) (by omega) _ (pgR B L at_ kk) (rblk B L (at_ + (kk : Int))) _ _ _ (fun _ => True) (fun _ => False) rfl rfl ?aO ?aR (fun _ _ h => h) (fun _ h => h.elim) ?aF ?aB ?aS ?aL ?_; (case aR => exact (hrl.out ▸ HOx.out.reads)); (case aB => exact HB3.out); (case aF => exact (fun _ _ => trivial)); (case aO => exact HO3.out); (case aS => exact HB3.out.size); (case aL => rw [hkl.out]; omega); intro v7 w6 ho hb hg hat; have HB6 := Aside0.mk hb; have HO7 := Aside0.mk ho; clear ho hb hg hat)
        | fail)
      all_goals go_roundg (m - (kk + 1))
      all_goals first
        | omega
        | exact ⟨kk + 1, by omega, by omega, by go_num, HO7, HB6⟩
    · have : kk = m := by omega
      subst this
      have e1 : decide ((kk : Int) < (kk : Int)) = false := decide_eq_false (by omega)
      have hyl := HLEN.out kk (by omega)
      have hyB := HIB.out kk
      obtain ⟨A9, c9, rfl, hc9, hC9⟩ := Kd.R_reads HO.out
      obtain ⟨y, hy⟩ : ∃ y, y = pgR B L at_ kk := ⟨_, rfl⟩
      rw [← hy] at hyl hyB hC9 hc9 ⊢
      have HY := Aside0.mk hy
      clear hy
      have HU := Aside0.mk (noriaref18_Unwrap.calls 2000000 A9 c9 y (unwrapB y).1 (unwrapB y).2 _ hC9 hc9 (runwrap_eq hyB (by omega) 2000000 (by omega)))
      clear hC9 hc9 hyB hyl HO
      go_wp2_with (first
        | (go_at_call 15; refine HU.out.mono ?_; rintro e w3 ⟨v9, rfl, ho, hb⟩; have HO9 := Aside0.mk ho; have HB9 := Aside0.mk hb; clear ho hb)
        | fail)
      all_goals go_ret2
      all_goals (rw [← HY.out]; exact ⟨_, rfl, Kd.R_lower HO9.out HB.out.size, below_step HB.out HB9.out⟩)
end Go.Proofs.Ytpaiigonagiemaa.PAll
