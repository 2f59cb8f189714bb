/- The reference's device: Blocks, DeviceOf, NewDevice, Read. -/
import Derived.Test.YtkpfhlfbhceebaaDProg3
import Derived.Test.YtkpfhlfbhceebaaDRead2
import Derived.OpenShut
namespace Go.Proofs.Ytkpfhlfbhceebaa.PAll
open Go.Proofs.Ytkpfhlfbhceebaa.Help
open Go.RowKit Go.Proofs.YtkpfhlfbhceebaaW.PrintWords Go.Proofs.YtkpfhlfbhceebaaW.PrintLast Go.Proofs.YtkpfhlfbhceebaaW.PrintMore
set_option linter.unusedVariables false
set_option linter.unusedSimpArgs false

theorem infoRW : (Try.prog.info? 67).map (fun i => (i.zero, i.size, i.bytes)) = some (some (.agg #[.int .i64 0, .slice none 0 0]), 2, 32) := by kernel_rfl
theorem ref_blocks {w : World} {S N : Nat → Prop} {p : Nat} {B : List Int} {L : List (Int × List Int)} (h : Dev 58 67 w S N p B L) {n : Nat} (hn : B.length = n * 64) (hm : n ≤ 1024) :
    Calls Try.prog 29 #[.pointer (some ⟨p, 0, none⟩)] w fun e w' => e = .returned (.int .i64 n) ∧ w = w' := by
  obtain ⟨gb, cb, vl, h⟩ := h
  have h0 := cell_of_blk h.cell (j := 0) rfl
  have h1 := cell_of_blk h.cell (j := 1) rfl
  rw [hn] at h0
  have e1 : (((n * 64 : Nat) : Int).tdiv 64) = (n : Int) := by
    rw [Int.natCast_mul]
    exact Int.mul_tdiv_cancel _ (by decide)
  go_enter Try.func29, Try.ntmps29
  go_wp2
  all_goals go_ret
  refine ⟨?_, rfl⟩
  go_num
theorem DevNew.made {TD TW : Nat} {w W : World} {g cap : Nat} {B : List Int} (hnd : TD ≠ 5) (hB : Below w.heap.size w W) (hO : OwnBy W g cap B) (hg : w.heap.size ≤ g) :
    DevNew TD TW w (W.alloc (.cells #[.slice (some ⟨g, 0, none⟩) B.length cap, .slice none 0 0] TD)) (fun _ => False) W.heap.size B [] := by
  have hlt := hO.lt
  refine ⟨fun k => k = W.heap.size ∨ k = g, fun _ => False, ⟨g, cap, .slice none 0 0, ?_⟩, (Fr.of_below hB).trans (Fr.alloc (S := fun _ => False) W _) (fun _ _ h => h), ?_, fun k h => h.elim⟩
  · exact ⟨new_blk _ _, hO.same (Below.heap_alloc W _ g hlt), OwnRow.none_ _ _ _ _ _, .inl rfl, .inr rfl, fun k h => by simp [Value.ownBlock] at h, fun k h h2 => h2, fun k h => by rcases h with rfl | rfl <;> simp <;> omega, fun k h => h.elim⟩
  · rintro k (rfl | rfl)
    · exact hB.size
    · exact hg
theorem ref_of {w : World} {A : Option Addr} {c n : Nat} {bs : List Int} (hr : Kd.C (Kd.int .u8) w A bs.length bs) (hc : bs.length ≤ c) (hn : bs.length = n * 64) (h4 : 4 ≤ n) (hm : n ≤ 1024) :
    Calls Try.prog 23 #[.slice A bs.length c] w fun e w' =>
      ∃ p, e = .returned (.tuple #[.pointer (some ⟨p, 0, none⟩), .int .i64 0]) ∧ DevNew 58 67 w w' (fun _ => False) p bs [] := by
  have HR := Aside0.mk hr
  have HN := Aside0.mk hn
  have e2 : ((bs.length : Int).tmod 64) = 0 := by
    rw [hn, Int.natCast_mul]
    exact Int.mul_tmod_left _ _
  have hl : bs.length ≤ 65536 := by omega
  have hl2 : 256 ≤ bs.length := by omega
  have HL := Aside0.mk hl
  clear hr hn
  go_enter Try.func23, Try.ntmps23
  go_wp2_with (first
    | ((with_reducible refine gate_dst (N := 18) rfl ?_); refine Kd.R_lit (Kd.int .u8) _ 5 ?hg (N := 18) ?hd (xs := ([] : List (Int))) (inner := []) (ok := fun _ => True) (okp := fun _ => True) ?hr ?hp (fun _ hk => hk) trivial (Below.refl _ _) (Nat.le_refl _) (by simp) ?_; (case hd => rfl); (case hg => rfl); (case hr => first | (go_simp; done) | (go_simp; rfl)); (case hp => exact (Reps.none _ _)); intro v18 w1 ho5 hb hg_ hnew_; clear hg_ hnew_; have HO18 := Aside0.mk ho5; have HB18 := Aside0.mk hb; clear ho5 hb)
    | ((with_reducible refine gate_builtin (b := .append) (xs := #[.tmp 18, .tmp 19]) rfl ?_); at_builtin; refine Kd.R_append_rows (Kd.int .u8) (w0 := w) w.heap.size rfl (.tmp 18) (.tmp 19) 31 5 (.int .u8 0) 1 rfl Try.underlying31 info5 rfl (by decide) (by omega) v18 [] bs _ _ _ (fun _ => True) (fun _ => False) rfl rfl ?aO ?aR (fun _ _ h => h) (fun _ h => h.elim) ?aF ?aB ?aS ?aL ?_; (case aR => exact (Kd.C_below HR.out HB18.out)); (case aB => exact HB18.out); (case aF => exact (fun _ _ => trivial)); (case aO => exact HO18.out); (case aS => exact HB18.out.size); (case aL => have := HL.out; first | (simp; done) | (simp; omega)); intro v20 w2 ho hb hg hat; have HO20 := Aside0.mk ho; have HB20 := Aside0.mk hb; clear ho hb hg hat; have ho := HO20.out; rw [List.nil_append] at ho; obtain ⟨g', cap', rfl, hg', hcc', hO'⟩ := own_form ho (by omega); have HOf := Aside0.mk hO'; clear hO' ho HO20))
  all_goals first | (exfalso; omega) | skip
  go_ret2
  exact ⟨w2.heap.size, rfl, DevNew.made (TD := 58) (TW := 67) (by decide) HB20.out HOf.out hg'⟩
theorem ref_of_bad {w : World} {A : Option Addr} {c : Nat} {bs : List Int} (hr : Kd.C (Kd.int .u8) w A bs.length bs) (hn : ¬ (bs.length % 64 = 0 ∧ 4 ≤ bs.length / 64 ∧ bs.length / 64 ≤ 1024)) :
    Calls Try.prog 23 #[.slice A bs.length c] w fun e w' => e = .returned (.tuple #[.pointer none, .int .i64 1]) ∧ w = w' := by
  have hL : bs.length ≤ 9223372036854775807 := hr.2.1
  have e2 : ((bs.length : Int).tmod 64) = ((bs.length % 64 : Nat) : Int) := by rw [Int.tmod_eq_emod_of_nonneg (by omega)]; omega
  have hcond : (!decide (((bs.length % 64 : Nat) : Int) = 0) || decide ((bs.length : Int) < 256) || decide ((65536 : Int) < (bs.length : Int))) = true := by
    simp; omega
  go_enter Try.func23, Try.ntmps23
  go_wp2
  all_goals first | (exfalso; omega) | skip
  all_goals (go_ret2; exact ⟨rfl, rfl⟩)
theorem ref_new {w : World} {n : Nat} (h4 : 4 ≤ n) (hm : n ≤ 1024) :
    Calls Try.prog 10 #[.int .i64 n] w fun e w' =>
      ∃ p, e = .returned (.tuple #[.pointer (some ⟨p, 0, none⟩), .int .i64 0]) ∧ DevNew 58 67 w w' (fun _ => False) p (List.replicate (n * 64) 0) [] := by
  have E0 : Aside0 ((64 : Int) * (n : Int) = ((n * 64 : Nat) : Int)) := ⟨by rw [Int.natCast_mul]; omega⟩
  have hw1 : IntKind.i64.wrap (64 * (n : Int)) = 64 * (n : Int) := wrapI (by omega) (by omega)
  have c1 : decide ((n : Int) < 4) = false := by simp; omega
  have c2 : decide ((1024 : Int) < (n : Int)) = false := by simp; omega
  go_enter Try.func10, Try.ntmps10
  go_wp2_with (first
    | ((with_reducible refine gate_dst (N := 12) rfl ?_); refine Kd.R_make (Kd.int .u8) _ 5 rfl (N := 12) rfl 31 _ _ rfl (64 * (n : Int)) rfl rfl Try.underlying31 (.int .u8 0) 1 info5 rfl (by decide) (by omega) 0 (ok := fun _ => True) (okp := fun _ => True) rfl (fun _ hk => hk) trivial (by omega) (by omega) (Below.refl _ _) (Nat.le_refl _) ?_; intro v1 w1 ho hb hg_ hnew_; clear hg_ hnew_; rw [E0.out, Int.toNat_natCast] at ho; obtain ⟨g, cap, rfl, hg, hc, hO⟩ := own_form ho (by rw [List.length_replicate]; omega); have HO := Aside0.mk hO; have HB := Aside0.mk hb; have HG := Aside0.mk hg; clear ho hO hb hc hg))
  go_ret2
  have hN := DevNew.made (TD := 58) (TW := 67) (by decide) HB.out HO.out HG.out
  rw [List.length_replicate] at hN
  exact ⟨w1.heap.size, rfl, hN⟩
theorem ref_new_bad {w : World} {n : Int} (hn : n < 4 ∨ 1024 < n) :
    Calls Try.prog 10 #[.int .i64 n] w fun e w' => e = .returned (.tuple #[.pointer none, .int .i64 1]) ∧ w = w' := by
  go_enter Try.func10, Try.ntmps10
  go_wp2
  all_goals first | (exfalso; omega) | skip
  all_goals (go_ret2; exact ⟨rfl, rfl⟩)
theorem ref_read_bad {w : World} {S N : Nat → Prop} {p : Nat} {B : List Int} {L : List (Int × List Int)} (h : Dev 58 67 w S N p B L) {n : Nat} (hn : B.length = n * 64) (hm : n ≤ 1024) {i : Int} (hi : ¬ (0 ≤ i ∧ i < n)) :
    Calls Try.prog 20 #[.pointer (some ⟨p, 0, none⟩), .int .i64 i] w fun e w' => e = .returned (.tuple #[.slice none 0 0, .int .i64 1]) ∧ w = w' := by
  have hb := Aside0.mk (ref_blocks h hn hm)
  clear h
  go_enter Try.func20, Try.ntmps20
  by_cases h0 : i < 0
  · go_wp2_with (go_at_call 29; refine hb.out.mono ?_; rintro e w' ⟨rfl, rfl⟩)
    all_goals first | (exfalso; omega) | skip
    all_goals go_ret2
    all_goals exact ⟨rfl, rfl⟩
  · go_wp2_with (go_at_call 29; refine hb.out.mono ?_; rintro e w' ⟨rfl, rfl⟩)
    all_goals first | (exfalso; omega) | skip
    all_goals go_ret2
    all_goals exact ⟨rfl, rfl⟩
set_option maxRecDepth 100000 in
set_option maxHeartbeats 4000000 in
theorem ref_read {w : World} {S N : Nat → Prop} {p : Nat} {B : List Int} {L : List (Int × List Int)} (h : Dev 58 67 w S N p B L) {n : Nat} (hn : B.length = n * 64) (hm : n ≤ 1024) (hl : L.length < 4294967296) (hw : ∀ x ∈ L, x.2.length = 64) {i : Int} (h0 : 0 ≤ i) (hi : i < n) :
    Calls Try.prog 20 #[.pointer (some ⟨p, 0, none⟩), .int .i64 i] w fun e w' =>
      ∃ g cap, e = .returned (.tuple #[.slice (some ⟨g, 0, none⟩) 64 cap, .int .i64 0]) ∧ w.heap.size ≤ g ∧ 64 ≤ cap ∧ OwnBy w' g cap (rblk B L i) ∧ Below w.heap.size w w' := by
  have hb := Aside0.mk (ref_blocks h hn hm)
  obtain ⟨gb, cb, vl, h⟩ := h
  obtain ⟨A, c, rfl, hc, hL⟩ := h.lenL
  have hp0 := cell_of_blk h.cell (j := 0) rfl
  have hp1 := cell_of_blk h.cell (j := 1) rfl
  have hcb : B.length ≤ cb := by obtain ⟨_, _, _, h2, _⟩ := h.own; exact h2
  rw [hn] at hp0 hcb
  have hps := h.slt p h.sp
  have H := Aside0.mk h
  have HN := Aside0.mk hn
  have HW := Aside0.mk hw
  clear h hn hw
  obtain ⟨q, rfl⟩ := Int.eq_ofNat_of_zero_le h0
  have hw0 : IntKind.i64.wrap ((L.length : Int) - 1) = (L.length : Int) - 1 := wrapI (by omega) (by omega)
  go_enter Try.func20, Try.ntmps20
  go_wp2_with (go_at_call 29; refine hb.out.mono ?_; rintro e w' ⟨rfl, rfl⟩)
  all_goals first | (exfalso; omega) | skip
  go_loopg [6] L.length (fun gg s6 wr => ∃ kk : Nat, kk ≤ L.length ∧ kk ≤ gg ∧ s6 = .int .i64 ((kk : Int) - 1) ∧ w = wr ∧ Aside0 (lastAt L (q : Int) L.length = lastAt L (q : Int) kk))
  case atStart => exact ⟨L.length, Nat.le_refl _, Nat.le_refl _, rfl, rfl, ⟨rfl⟩⟩
  case round =>
    obtain ⟨kk, hkk, hgg, rfl, rfl, HA⟩ := hrel
    cases kk with
    | zero =>
      have hq1 : IntKind.i64.wrap (64 * (q : Int)) = 64 * (q : Int) := wrapI (by omega) (by omega)
      have hq2 : IntKind.i64.wrap (64 * (q : Int) + 64) = 64 * (q : Int) + 64 := wrapI (by omega) (by omega)
      have hq3 : (64 * (q : Int)).toNat = q * 64 := by omega
      have hq4 : (64 * (q : Int) + 64).toNat = q * 64 + 64 := by omega
      have hq5 : (64 * (q : Int) + 64 - 64 * (q : Int)).toNat = 64 := by omega
      have hq6 : (64 * (q : Int)) ≤ ((n * 64 : Nat) : Int) := by omega
      have hcut := H.out.own.cut (off := q * 64) (m := 64) (by rw [HN.out]; omega)
      have HC := Aside0.mk hcut
      clear hcut
      have hlen : ((B.drop (q * 64)).take 64).length = 64 := by rw [List.length_take, List.length_drop, HN.out]; omega
      have HLn := Aside0.mk hlen
      clear hlen
      go_wp2_with (first
        | ((with_reducible refine gate_dst (N := 45) rfl ?_); refine Kd.R_lit (Kd.int .u8) _ 5 ?hg (N := 45) ?hd (xs := ([] : List (Int))) (inner := []) (ok := fun _ => True) (okp := fun _ => True) ?hr ?hp (fun _ hk => hk) trivial (Below.refl _ _) (Nat.le_refl _) (by simp) ?_; (case hd => rfl); (case hg => rfl); (case hr => first | (go_simp; done) | (go_simp; rfl)); (case hp => exact (Reps.none _ _)); intro v45 w1 ho5 hb hg_ hnew_; clear hg_ hnew_; have HO45 := Aside0.mk ho5; have HB45 := Aside0.mk hb; clear ho5 hb; have hp0a := (HB45.out.cell (p := ⟨p, 0, none⟩) hps).trans hp0)
        | ((with_reducible refine gate_builtin (b := .append) (xs := #[.tmp 45, .tmp 55]) rfl ?_); at_builtin; refine Kd.R_append_rows (Kd.int .u8) (w0 := w) w.heap.size rfl (.tmp 45) (.tmp 55) 31 5 (.int .u8 0) 1 rfl Try.underlying31 info5 rfl (by decide) (by omega) v45 [] ((B.drop (q * 64)).take 64) _ _ _ (fun _ => True) (fun _ => False) rfl rfl ?aO ?aR (fun _ _ h => h) (fun _ h => h.elim) ?aF ?aB ?aS ?aL ?_; (case aR => exact (Kd.C_below HC.out HB45.out)); (case aB => exact HB45.out); (case aF => exact (fun _ _ => trivial)); (case aO => exact HO45.out); (case aS => exact HB45.out.size); (case aL => have := HLn.out; first | (simp; done) | (simp; omega)); intro v56 w2 ho hb hg hat; have HO56 := Aside0.mk ho; have HB56 := Aside0.mk hb; clear ho hb hg hat; have ho := HO56.out; rw [List.nil_append] at ho; obtain ⟨g', cap', rfl, hg', hcc', hO'⟩ := own_form ho (by rw [HLn.out]; decide); (try rw [HLn.out] at hcc'); (try rw [HLn.out]); have HOf := Aside0.mk hO'; clear hO' ho HO56))
      have hrb : rblk B L (q : Int) = (B.drop (q * 64)).take 64 := by unfold rblk; rw [HA.out]; rfl
      go_ret2
      exact ⟨g', cap', rfl, hg', hcc', hrb ▸ HOf.out, HB56.out⟩
    | succ kk =>
      have hlt : kk < L.length := by omega
      obtain ⟨g, A', c', rfl, hgS, hc0, hc1, hle, hC, hN⟩ := H.out.item hlt
      have hgl := H.out.slt g hgS
      have HX := Aside0.mk (List.getElem?_eq_getElem hlt)
      have hxw := HW.out _ (List.getElem_mem hlt)
      generalize L[kk]'hlt = x at *
      obtain ⟨x1, x2⟩ := x
      simp only at hc0 hc1 hle hC hxw
      have HC : Aside0 (Kd.C (Kd.int .u8) w A' 64 x2) := ⟨by rw [hxw] at hC; exact hC⟩
      have HXW := Aside0.mk hxw
      rw [hxw] at hc1 hle
      clear hC hN hxw
      have hwk : IntKind.i64.wrap ((kk : Int) - 1) = (kk : Int) - 1 := wrapI (by omega) (by omega)
      have hk1 : (((kk + 1 : Nat) : Int) - 1) = (kk : Int) := by omega
      rw [hk1]
      have hstep : lastAt L (q : Int) (kk + 1) = if x1 = (q : Int) then some x2 else lastAt L (q : Int) kk := by
        show (match L[kk]? with | some x => if x.1 = (q : Int) then some x.2 else lastAt L (q : Int) kk | none => lastAt L (q : Int) kk) = _
        rw [HX.out]
      have HST := Aside0.mk hstep
      clear hstep hk1
      by_cases hx : x1 = (q : Int)
      · subst hx
        go_wp2_with (first
          | ((with_reducible refine gate_dst (N := 35) rfl ?_); refine Kd.R_lit (Kd.int .u8) _ 5 ?hg (N := 35) ?hd (xs := ([] : List (Int))) (inner := []) (ok := fun _ => True) (okp := fun _ => True) ?hr ?hp (fun _ hk => hk) trivial (Below.refl _ _) (Nat.le_refl _) (by simp) ?_; (case hd => rfl); (case hg => rfl); (case hr => first | (go_simp; done) | (go_simp; rfl)); (case hp => exact (Reps.none _ _)); intro v35 w1 ho5 hb hg_ hnew_; clear hg_ hnew_; have HO35 := Aside0.mk ho5; have HB35 := Aside0.mk hb; clear ho5 hb; have hp1a := (HB35.out.cell (p := ⟨p, 1, none⟩) hps).trans hp1; have hc1a := (HB35.out.cell (p := ⟨g, kk * 2 + 1, none⟩) hgl).trans hc1)
          | ((with_reducible refine gate_builtin (b := .append) (xs := #[.tmp 35, .tmp 43]) rfl ?_); at_builtin; refine Kd.R_append_rows (Kd.int .u8) (w0 := w) w.heap.size rfl (.tmp 35) (.tmp 43) 31 5 (.int .u8 0) 1 rfl Try.underlying31 info5 rfl (by decide) (by omega) v35 [] x2 _ _ _ (fun _ => True) (fun _ => False) rfl rfl ?aO ?aR (fun _ _ h => h) (fun _ h => h.elim) ?aF ?aB ?aS ?aL ?_; (case aR => exact (Kd.C_below HC.out HB35.out)); (case aB => exact HB35.out); (case aF => exact (fun _ _ => trivial)); (case aO => exact HO35.out); (case aS => exact HB35.out.size); (case aL => have := HXW.out; first | (simp; done) | (simp; omega)); intro v44 w2 ho hb hg hat; have HO44 := Aside0.mk ho; have HB44 := Aside0.mk hb; clear ho hb hg hat; have ho := HO44.out; rw [List.nil_append] at ho; obtain ⟨g', cap', rfl, hg', hcc', hO'⟩ := own_form ho (by rw [HXW.out]; decide); (try rw [HXW.out] at hcc'); (try rw [HXW.out]); have HOf := Aside0.mk hO'; clear hO' ho HO44))
        have hrb : rblk B L (q : Int) = x2 := by unfold rblk; rw [HA.out, HST.out]; simp
        go_ret2
        exact ⟨g', cap', rfl, hg', hcc', hrb ▸ HOf.out, HB44.out⟩
      · go_wp2
        all_goals go_roundg kk
        all_goals first
          | omega
          | exact ⟨kk, by omega, by omega, by go_num, rfl, ⟨by rw [HA.out, HST.out, if_neg hx]⟩⟩
end Go.Proofs.Ytkpfhlfbhceebaa.PAll
