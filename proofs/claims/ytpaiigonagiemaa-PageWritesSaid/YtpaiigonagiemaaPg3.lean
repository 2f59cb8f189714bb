/- page.Write over a system of devices. -/
import Derived.Test.YtpaiigonagiemaaPg2
import Derived.Test.YtpaiigonagiemaaRef
namespace Go.Proofs.Ytpaiigonagiemaa.PAll
open Go.Proofs.Ytpaiigonagiemaa.Help
open Go.RowKit Go.Proofs.YtpaiigonagiemaaW.PrintWords Go.Proofs.YtpaiigonagiemaaW.PrintLast Go.Proofs.YtpaiigonagiemaaW.PrintMore
open Go.Proofs.Ytpaiigonagiemaa.Num (isB enc psz wrapB wrap_eq wrap_long psz_fits enc_len2 wrapB_length)
set_option linter.unusedVariables false
set_option linter.unusedSimpArgs false
/-- Blocks that are written, one behind the other. -/
def pgW (at_ : Int) (w : List Int) : Nat → List (Int × List Int)
  | 0 => []
  | k + 1 => pgW at_ w k ++ [(at_ + (k : Int), (w.drop (k * 64)).take 64)]
theorem pgW_length (at_ : Int) (w : List Int) (k : Nat) : (pgW at_ w k).length = k := by
  induction k with
  | zero => rfl
  | succ k ih => simp [pgW, ih]
theorem psz_le {n : Nat} (h : n ≤ 8192) : psz n ≤ 130 := by have := enc_len2 h; unfold psz; omega
/-- A row of one's own, as a whole block. -/
theorem own_obj {w : World} {g cap : Nat} {B : List Int} (h : OwnBy w g cap B) : ∃ o, w.heap[g]? = some o ∧ ∀ w', w'.heap[g]? = some o → OwnBy w' g cap B := by
  obtain ⟨cur, hh, r⟩ := h
  exact ⟨_, hh, fun w' h' => ⟨cur, h', r⟩⟩
theorem page_write_long {W : World} {p : Nat} {at_ : Int} {A : Option Addr} {c : Nat} {b : List Int} (hr : Kd.C (Kd.int .u8) W A b.length b) (hc : b.length ≤ c) (hb : 8192 < b.length) :
    Calls Try.prog 17 #[.pointer (some ⟨p, 0, none⟩), .int .i64 at_, .slice A b.length c] W fun e w' => e = .returned (.int .i64 4) ∧ Below W.heap.size W w' := by
  have hw := page_Wrap.calls 5 A c b [] 4 W hr hc (wrap_long hb 5)
  go_enter Try.func17, Try.ntmps17
  go_wp2
  refine wp_scope_labs ?_
  intro G_ hG_
  go_wp2_with (first | (go_at_call 10; refine hw.mono ?_; rintro e w1 ⟨v0, rfl, ho, hB⟩) | fail)
  rw [labs_ret]
  go_ret
  exact ⟨rfl, hB⟩
theorem updM_updM (D : Nat → Option MSt) (i : Nat) (d e : MSt) : updM (updM D i d) i e = updM D i e := by
  funext j
  unfold updM
  split <;> rfl
set_option maxRecDepth 100000 in
set_option maxHeartbeats 4000000 in
theorem page_write {w0 W : World} {D : Nat → Option MSt} {R : List (Nat × Obj)} (h : Mix w0 W D R) {i p n : Nat} {B : List Int} {L : List (Int × List Int)} (hi : D i = some ⟨false, p, n, B, L⟩) (hl : L.length < 4000000000) {at_ : Int} (h0 : 0 ≤ at_)
    {A : Option Addr} {c : Nat} {b : List Int} (hr : Kd.C (Kd.int .u8) W A b.length b) (hc : b.length ≤ c) (hB : isB b) (h8 : b.length ≤ 8192) (hfit : at_ + (psz b.length : Int) ≤ n) :
    Calls Try.prog 17 #[.pointer (some ⟨p, 0, none⟩), .int .i64 at_, .slice A b.length c] W fun e w' => e = .returned (.int .i64 0) ∧ ∃ g o, Mix w0 w' (updM D i ⟨false, p, n, B, L ++ pgW at_ (wrapB b) (psz b.length)⟩) ((g, o) :: R) := by
  have ok := h.ok hi
  have hn4 : n ≤ 1024 := ok.nm
  have hw := Aside0.mk (page_Wrap.calls 90000 A c b (wrapB b) 0 W hr hc (wrap_eq hB h8 90000 (by omega)))
  have hwl := wrapB_length b
  have hps := psz_fits b.length
  have hple := psz_le h8
  generalize wrapB b = x at *
  generalize psz b.length = m at *
  have HX := Aside0.mk h
  have HI := Aside0.mk hi
  have HWL := Aside0.mk hwl
  have HLl := Aside0.mk hl
  have hm1 : 1 ≤ m := by omega
  have hbl := Aside0.mk (fun (W' : World) (hB' : Below W.heap.size W W') => (h.below hB').blocks hi)
  have hdv : ((x.length : Int).tdiv 64) = (m : Int) := by rw [hwl, Int.natCast_mul]; exact Int.mul_tdiv_cancel _ (by decide)
  have hws : IntKind.i64.wrap ((n : Int) - at_) = (n : Int) - at_ := wrapI (by omega) (by omega)
  have c1 : decide (at_ < 0) = false := by simp; omega
  have c2 : decide ((n : Int) < at_) = false := by simp; omega
  have c3 : decide ((n : Int) - at_ < (m : Int)) = false := by simp; omega
  rw [hwl] at hdv
  clear h hi hr hwl ok hl
  go_enter Try.func17, Try.ntmps17
  go_wp2
  refine wp_scope_labs ?_
  intro G_ hG_
  go_wp2_with (first
    | (go_at_call 10; refine hw.out.mono ?_; rintro e w1 ⟨v0, rfl, ho, hBw⟩; obtain ⟨gW, cW, rfl, hgW, hcW, hOW⟩ := own_form ho (by rw [HWL.out]; omega); rw [HWL.out] at hcW ⊢; have HOW := Aside0.mk hOW; have HBW := Aside0.mk hBw; clear ho hOW hBw)
    | (go_at_call 40; refine (hbl.out _ HBW.out).mono ?_; rintro e w2 ⟨rfl, rfl⟩)
    | fail)
  obtain ⟨oW, hoW, hOx⟩ := own_obj HOW.out
  have HO := Aside0.mk hOx
  have HM := Aside0.mk (HX.out.row HBW.out hoW hgW)
  have hmax := psz_le h8
  clear hoW hOx
  go_step3
  simp only [Exit.then]
  go_step
  refine label_ghost hG_ 0 (by rfl) (fun kq_ a_ w_ => ∃ (kk : Nat) (v1 : Int) (ln : Nat) (A' : Option Addr) (c' : Nat) (z : Nat → Value), kk ≤ m ∧ m - kk ≤ kq_ ∧ v1 = at_ + kk ∧ ln = (x.drop (kk * 64)).length ∧ ln ≤ c' ∧ Aside0 (∀ W', OwnBy W' gW cW x → Kd.C (Kd.int .u8) W' A' (x.drop (kk * 64)).length (x.drop (kk * 64))) ∧ Aside0 (Mix w0 w_ (updM D i ⟨false, p, n, B, L ++ pgW at_ x kk⟩) ((gW, oW) :: R)) ∧
    a_ = (⟨#[.pointer (some ⟨p, 0, none⟩), .int .i64 v1, .slice A b.length c, z 3, z 4, z 5, .int .i64 0, .slice A' ln c', z 8, z 9, z 10, z 11, z 12, z 13, z 14, z 15, z 16, z 17, z 18, z 19, z 20, z 21, z 22, z 23, z 24, z 25, z 26, z 27, z 28, z 29, z 30, z 31, z 32, z 33, z 34, z 35, z 36, z 37, z 38, z 39, z 40, z 41, z 42, z 43, z 44, z 45], []⟩ : Act)) m ?_ ?_
  · refine ⟨0, at_, m * 64, some ⟨gW, 0, none⟩, cW, fun k_ => Array.getD #[undef, undef, undef, _, _, _, undef, undef, _, _, _, _, _, _, _, _, _, _, _, _, _, _, _, _, _, _, _, _, _, _, _, _, _, _, _, _, _, _, _, _, _, _, _, _, _, _] k_ undef, Nat.zero_le _, by omega, by omega, ?_, hcW, ⟨fun W' h => ?_⟩, ⟨?_⟩, rfl⟩
    · rw [Nat.zero_mul, List.drop_zero, HWL.out]
    · rw [Nat.zero_mul, List.drop_zero]; exact h.reads
    · show Mix w0 w1 (updM D i ⟨false, p, n, B, L ++ []⟩) _
      rw [List.append_nil, updM_self HI.out]
      exact HM.out
  intro gko a_ wr hinv_ J_0 K_0 hJ_0 hK_0 hKG_0
  obtain ⟨kk, v1, ln, A', c', z, hkk, hg, hv1, hln, hlc, HRd, HMx, ha_⟩ := hinv_
  subst ha_
  have hlx : ln = m * 64 - kk * 64 := by rw [hln, List.length_drop, HWL.out]
  have hO := HO.out wr (HMx.out.kept (List.Mem.head _))
  by_cases hlt : kk < m
  · have hl64 : 64 ≤ ln := by omega
    have hrd := HRd.out wr hO
    have hwv : IntKind.i64.wrap (v1 + 1) = v1 + 1 := wrapI (by omega) (by omega)
    obtain ⟨y, hy⟩ : ∃ y, y = x.drop (kk * 64) := ⟨_, rfl⟩
    rw [← hy] at hln hrd HRd
    have hyl : y.length = ln := hln.symm
    have hcy : y.length ≤ c' := by omega
    obtain ⟨i0, hi0, _, hsz0, _⟩ := info_parts info5
    have hct := cut_to (P := Try.prog) 22 5 .i64 Try.underlying22 hi0 A' ln c' 64 (by omega) (by omega) hlc
    have ht64 : (64 : Int).toNat = 64 := rfl
    rw [ht64] at hct
    obtain ⟨A5, hcut5, hA5, hC5⟩ := print_drop_of (P := Try.prog) (Value.int .u8) 0 22 5 .i64 Try.underlying22 hi0 hsz0 A' c' y 64 (by omega) (by omega) hcy
    rw [ht64, hyl] at hcut5
    rw [ht64] at hC5
    have HR5 : Aside0 (∀ W', OwnBy W' gW cW x → Kd.C (Kd.int .u8) W' A5 (y.drop 64).length (y.drop 64)) := ⟨fun W' h => by
      have hr' := Kd.C_of_reads (h1 := fun _ => rfl) (hA5 _ (Kd.reads_of_C (HRd.out W' h)))
      rw [ht64] at hr'
      exact hr'⟩
    have hy64 : y.drop 64 = x.drop ((kk + 1) * 64) := by rw [hy, List.drop_drop]; congr 1; omega
    have hbk : y.take 64 = (x.drop (kk * 64)).take 64 := by rw [hy]
    have hb64 : (y.take 64).length = 64 := by rw [List.length_take]; omega
    have hrt := Kd.C_take (m := 64) hrd (by omega)
    have HRT : Aside0 (Kd.C (Kd.int .u8) wr A' (y.take 64).length (y.take 64)) := ⟨hrt⟩
    have HB64 := Aside0.mk hb64
    have HY64 := Aside0.mk hy64
    have HBK := Aside0.mk hbk
    obtain ⟨l5, hl5⟩ : ∃ l, l = (y.drop 64).length := ⟨_, rfl⟩
    rw [← hl5] at hcut5 hC5
    have HL5 := Aside0.mk hl5
    have HLn := Aside0.mk hln
    have hvlt : v1 < (n : Int) := by omega
    have hv0 : 0 ≤ v1 := by omega
    have hc64 : 64 ≤ c' := by omega
    have HV1 := Aside0.mk hv1
    have HLX := Aside0.mk hlx
    clear hrd hA5 hy64 hbk hrt hb64 hl5 hln hyl hcy hi0 hsz0 hO hv1 hlx
    go_upto_region 8 with (first
      | (go_at_call 41; have hc := HMx.out.write (i := i) (updM_same _ _ _) (by rw [List.length_append, pgW_length]; have := HLl.out; omega) hv0 hvlt (c := c') HRT.out (by rw [HB64.out]; exact hc64) HB64.out; rw [HB64.out] at hc; (with_reducible refine hc.mono ?_); clear hc; rintro e w2 ⟨rfl, h⟩; have HM2 := Aside0.mk h; clear h)
      | fail)
    go_region_law fail
    all_goals go_wp2
    all_goals go_step3
    all_goals refine hKG_0 _ _ (hK_0 _ _ (Handed.intro (gko - 1) ?_ (hJ_0 _ _ _ ?_)))
    all_goals first
      | omega
      | (refine ⟨kk + 1, v1 + 1, l5, A5, c' - 64, fun k_ => Array.getD #[undef, undef, undef, _, _, _, undef, undef, _, _, _, _, _, _, _, _, _, _, _, _, _, _, _, _, _, _, _, _, _, _, _, _, _, _, _, _, _, _, _, _, _, _, _, _, _, _] k_ undef, by omega, by omega, by have := HV1.out; omega, ?_, hC5, ?_, ⟨?_⟩, rfl⟩
         · rw [HL5.out, HY64.out]
         · rw [← HY64.out]; exact HR5
         · have q := HM2.out.below (W' := w2.drew) ⟨rfl, rfl, rfl, Nat.le_refl _, fun _ _ => rfl⟩
           rw [updM_updM, HBK.out, HV1.out, List.append_assoc] at q
           exact q)
  · have : kk = m := by omega
    subst this
    have hln0 : ln = 0 := by omega
    have HM3 := HMx
    clear hln hlx
    subst hln0
    go_wp2
    all_goals first | (exfalso; omega) | skip
    all_goals (try rw [labs_ret])
    all_goals (try rw [labs_normal])
    all_goals go_ret
    all_goals exact ⟨rfl, gW, oW, HM3.out⟩
theorem page_write_bad {w0 W : World} {D : Nat → Option MSt} {R : List (Nat × Obj)} (h : Mix w0 W D R) {i p n : Nat} {B : List Int} {L : List (Int × List Int)} (hi : D i = some ⟨false, p, n, B, L⟩) {at_ : Int} (h1 : -9223372036854775808 ≤ at_)
    {A : Option Addr} {c : Nat} {b : List Int} (hr : Kd.C (Kd.int .u8) W A b.length b) (hc : b.length ≤ c) (hB : isB b) (h8 : b.length ≤ 8192) (hfit : ¬ (0 ≤ at_ ∧ at_ + (psz b.length : Int) ≤ n)) :
    Calls Try.prog 17 #[.pointer (some ⟨p, 0, none⟩), .int .i64 at_, .slice A b.length c] W fun e w' => e = .returned (.int .i64 9) ∧ Below W.heap.size W w' := by
  have ok := h.ok hi
  have hn4 : n ≤ 1024 := ok.nm
  have hw := Aside0.mk (page_Wrap.calls 90000 A c b (wrapB b) 0 W hr hc (wrap_eq hB h8 90000 (by omega)))
  have hwl := wrapB_length b
  have hps := psz_fits b.length
  have hple := psz_le h8
  generalize wrapB b = x at *
  generalize psz b.length = m at *
  have HWL := Aside0.mk hwl
  have hm1 : 1 ≤ m := by omega
  have hbl := Aside0.mk (fun (W' : World) (hB' : Below W.heap.size W W') => (h.below hB').blocks hi)
  have hdv : (((m * 64 : Nat) : Int).tdiv 64) = (m : Int) := by rw [Int.natCast_mul]; exact Int.mul_tdiv_cancel _ (by decide)
  clear h hi hr hwl ok
  by_cases ha : at_ < 0
  · go_enter Try.func17, Try.ntmps17
    go_wp2
    refine wp_scope_labs ?_
    intro G_ hG_
    go_wp2_with (first
      | (go_at_call 10; refine hw.out.mono ?_; rintro e w1 ⟨v0, rfl, ho, hBw⟩; obtain ⟨gW, cW, rfl, hgW, hcW, hOW⟩ := own_form ho (by rw [HWL.out]; omega); rw [HWL.out] at hcW ⊢; have HBW := Aside0.mk hBw; clear ho hOW hBw)
      | (go_at_call 40; refine (hbl.out _ HBW.out).mono ?_; rintro e w2 ⟨rfl, rfl⟩)
      | fail)
    all_goals first | (exfalso; omega) | skip
    all_goals (try rw [labs_ret])
    all_goals go_ret
    all_goals exact ⟨rfl, HBW.out⟩
  · have c1 : decide (at_ < 0) = false := by simp; omega
    by_cases hb : (n : Int) < at_
    · go_enter Try.func17, Try.ntmps17
      go_wp2
      refine wp_scope_labs ?_
      intro G_ hG_
      go_wp2_with (first
        | (go_at_call 10; refine hw.out.mono ?_; rintro e w1 ⟨v0, rfl, ho, hBw⟩; obtain ⟨gW, cW, rfl, hgW, hcW, hOW⟩ := own_form ho (by rw [HWL.out]; omega); rw [HWL.out] at hcW ⊢; have HBW := Aside0.mk hBw; clear ho hOW hBw)
        | (go_at_call 40; refine (hbl.out _ HBW.out).mono ?_; rintro e w2 ⟨rfl, rfl⟩)
        | fail)
      all_goals first | (exfalso; omega) | skip
      all_goals (try rw [labs_ret])
      all_goals go_ret
      all_goals exact ⟨rfl, HBW.out⟩
    · have c2 : decide ((n : Int) < at_) = false := by simp; omega
      have hws : IntKind.i64.wrap ((n : Int) - at_) = (n : Int) - at_ := wrapI (by omega) (by omega)
      have c3 : decide ((n : Int) - at_ < (m : Int)) = true := by simp; omega
      go_enter Try.func17, Try.ntmps17
      go_wp2
      refine wp_scope_labs ?_
      intro G_ hG_
      go_wp2_with (first
        | (go_at_call 10; refine hw.out.mono ?_; rintro e w1 ⟨v0, rfl, ho, hBw⟩; obtain ⟨gW, cW, rfl, hgW, hcW, hOW⟩ := own_form ho (by rw [HWL.out]; omega); rw [HWL.out] at hcW ⊢; have HBW := Aside0.mk hBw; clear ho hOW hBw)
        | (go_at_call 40; refine (hbl.out _ HBW.out).mono ?_; rintro e w2 ⟨rfl, rfl⟩)
        | fail)
      all_goals first | (exfalso; omega) | skip
      all_goals (try rw [labs_ret])
      all_goals go_ret
      all_goals exact ⟨rfl, HBW.out⟩
end Go.Proofs.Ytpaiigonagiemaa.PAll
