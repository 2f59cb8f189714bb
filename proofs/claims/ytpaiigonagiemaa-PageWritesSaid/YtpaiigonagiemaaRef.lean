import Derived.Test.YtpaiigonagiemaaDev
import Derived.OpenShut
/- The reference's device: Blocks, DeviceOf, NewDevice, Read. -/
namespace Go.Proofs.Ytpaiigonagiemaa.PAll
open Go.Proofs.Ytpaiigonagiemaa.Help
open Go.RowKit Go.Proofs.YtpaiigonagiemaaW.PrintWords Go.Proofs.YtpaiigonagiemaaW.PrintLast Go.Proofs.YtpaiigonagiemaaW.PrintMore
open Go.Proofs.YtpaiigonagiemaaW.PrintWords.Kd (raw reads_raw)
set_option linter.unusedVariables false
set_option linter.unusedSimpArgs false

theorem infoRW : (Try.prog.info? 87).map (fun i => (i.zero, i.size, i.bytes)) = some (some (.agg #[.int .i64 0, .slice none 0 0]), 2, 32) := by kernel_rfl
theorem ref_blocks {w : World} {S N : Nat → Prop} {p : Nat} {B : List Int} {L : List (Int × List Int)} (h : Dev 49 87 w S N p B L) {n : Nat} (hn : B.length = n * 64) (hm : n ≤ 1024) :
    Calls Try.prog 43 #[.pointer (some ⟨p, 0, none⟩)] w fun e w' => e = .returned (.int .i64 n) ∧ w = w' := by
  obtain ⟨gb, cb, vl, h⟩ := h
  have h0 := cell_of_blk h.cell (j := 0) rfl
  have h1 := cell_of_blk h.cell (j := 1) rfl
  rw [hn] at h0
  have e1 : (((n * 64 : Nat) : Int).tdiv 64) = (n : Int) := by
    rw [Int.natCast_mul]
    exact Int.mul_tdiv_cancel _ (by decide)
  go_enter Try.func43, Try.ntmps43
  go_wp2
  all_goals go_ret
  refine ⟨?_, rfl⟩
  go_num
theorem DevNew.made {TD TW : Nat} {w W : World} {g cap : Nat} {B : List Int} (hnd : TD ≠ 5) (hB : Below w.heap.size w W) (hO : OwnBy W g cap B) (hg : w.heap.size ≤ g) :
    DevNew TD TW w (W.alloc (.cells #[.slice (some ⟨g, 0, none⟩) B.length cap, .slice none 0 0] TD)) (fun _ => False) W.heap.size B [] := by
  have hlt := hO.lt
  refine ⟨fun k => k = W.heap.size ∨ k = g, fun _ => False, ⟨g, cap, .slice none 0 0, ?_⟩, (Fr.of_below hB).trans (Fr.alloc (S := fun _ => False) W _) (fun _ _ h => h), ?_, fun k h => h.elim⟩
  · exact ⟨new_blk _ _, hO.same (Below.heap_alloc W _ g hlt), OwnRow.none_ _ _ _ _ _, .inl rfl, .inr rfl, fun k h => by simp [Value.ownBlock] at h, fun k h h2 => h2, fun k h => by rcases h with rfl | rfl <;> simp <;> omega, fun k h => h.elim⟩
  · rintro k (rfl | rfl)
    · exact hB.size
    · exact hg
theorem ref_new {w : World} {n : Nat} (h4 : 4 ≤ n) (hm : n ≤ 1024) :
    Calls Try.prog 19 #[.int .i64 n] w fun e w' =>
      ∃ p, e = .returned (.tuple #[.pointer (some ⟨p, 0, none⟩), .int .i64 0]) ∧ DevNew 49 87 w w' (fun _ => False) p (List.replicate (n * 64) 0) [] := by
  have E0 : Aside0 ((64 : Int) * (n : Int) = ((n * 64 : Nat) : Int)) := ⟨by rw [Int.natCast_mul]; omega⟩
  have hw1 : IntKind.i64.wrap (64 * (n : Int)) = 64 * (n : Int) := wrapI (by omega) (by omega)
  have c1 : decide ((n : Int) < 4) = false := by simp; omega
  have c2 : decide ((1024 : Int) < (n : Int)) = false := by simp; omega
  go_enter Try.func19, Try.ntmps19
  go_wp2_with (first
    | ((with_reducible refine gate_dst (N := 12) rfl ?_); refine Kd.R_make (Kd.int .u8) _ 5 rfl (N := 12) rfl 22 _ _ rfl (64 * (n : Int)) rfl rfl Try.underlying22 (.int .u8 0) 1 info5 rfl (by decide) (by omega) 0 (ok := fun _ => True) (okp := fun _ => True) rfl (fun _ hk => hk) trivial (by omega) (by omega) (Below.refl _ _) (Nat.le_refl _) ?_; intro v1 w1 ho hb hg_ hnew_; clear hg_ hnew_; rw [E0.out, Int.toNat_natCast] at ho; obtain ⟨g, cap, rfl, hg, hc, hO⟩ := own_form ho (by rw [List.length_replicate]; omega); have HO := Aside0.mk hO; have HB := Aside0.mk hb; have HG := Aside0.mk hg; clear ho hO hb hc hg))
  go_ret2
  have hN := DevNew.made (TD := 49) (TW := 87) (by decide) HB.out HO.out HG.out
  rw [List.length_replicate] at hN
  exact ⟨w1.heap.size, rfl, hN⟩
theorem ref_new_bad {w : World} {n : Int} (hn : n < 4 ∨ 1024 < n) :
    Calls Try.prog 19 #[.int .i64 n] w fun e w' => e = .returned (.tuple #[.pointer none, .int .i64 1]) ∧ w = w' := by
  go_enter Try.func19, Try.ntmps19
  go_wp2
  all_goals first | (exfalso; omega) | skip
  all_goals (go_ret2; exact ⟨rfl, rfl⟩)
theorem ref_read_bad {w : World} {S N : Nat → Prop} {p : Nat} {B : List Int} {L : List (Int × List Int)} (h : Dev 49 87 w S N p B L) {n : Nat} (hn : B.length = n * 64) (hm : n ≤ 1024) {i : Int} (hi : ¬ (0 ≤ i ∧ i < n)) :
    Calls Try.prog 49 #[.pointer (some ⟨p, 0, none⟩), .int .i64 i] w fun e w' => e = .returned (.tuple #[.slice none 0 0, .int .i64 1]) ∧ w = w' := by
  have hb := Aside0.mk (ref_blocks h hn hm)
  clear h
  go_enter Try.func49, Try.ntmps49
  by_cases h0 : i < 0
  · go_wp2_with (go_at_call 43; refine hb.out.mono ?_; rintro e w' ⟨rfl, rfl⟩)
    all_goals first | (exfalso; omega) | skip
    all_goals go_ret2
    all_goals exact ⟨rfl, rfl⟩
  · go_wp2_with (go_at_call 43; refine hb.out.mono ?_; rintro e w' ⟨rfl, rfl⟩)
    all_goals first | (exfalso; omega) | skip
    all_goals go_ret2
    all_goals exact ⟨rfl, rfl⟩
set_option maxRecDepth 100000 in
set_option maxHeartbeats 4000000 in
theorem ref_read {w : World} {S N : Nat → Prop} {p : Nat} {B : List Int} {L : List (Int × List Int)} (h : Dev 49 87 w S N p B L) {n : Nat} (hn : B.length = n * 64) (hm : n ≤ 1024) (hl : L.length < 4294967296) (hw : ∀ x ∈ L, x.2.length = 64) {i : Int} (h0 : 0 ≤ i) (hi : i < n) :
    Calls Try.prog 49 #[.pointer (some ⟨p, 0, none⟩), .int .i64 i] w fun e w' =>
      ∃ g cap, e = .returned (.tuple #[.slice (some ⟨g, 0, none⟩) 64 cap, .int .i64 0]) ∧ w.heap.size ≤ g ∧ 64 ≤ cap ∧ OwnBy w' g cap (rblk B L i) ∧ Below w.heap.size w w' := by
  have hb := Aside0.mk (ref_blocks h hn hm)
  obtain ⟨gb, cb, vl, h⟩ := h
  obtain ⟨A, c, rfl, hc, hL⟩ := h.lenL
  have hp0 := cell_of_blk h.cell (j := 0) rfl
  have hp1 := cell_of_blk h.cell (j := 1) rfl
  have hcb : B.length ≤ cb := by obtain ⟨_, _, _, h2, _⟩ := h.own; exact h2
  rw [hn] at hp0 hcb
  have hps := h.slt p h.sp
  have H := Aside0.mk h
  have HN := Aside0.mk hn
  have HW := Aside0.mk hw
  clear h hn hw
  obtain ⟨q, rfl⟩ := Int.eq_ofNat_of_zero_le h0
  have hw0 : IntKind.i64.wrap ((L.length : Int) - 1) = (L.length : Int) - 1 := wrapI (by omega) (by omega)
  go_enter Try.func49, Try.ntmps49
  go_wp2_with (go_at_call 43; refine hb.out.mono ?_; rintro e w' ⟨rfl, rfl⟩)
  all_goals first | (exfalso; omega) | skip
  go_loopg [6] L.length (fun gg s6 wr => ∃ kk : Nat, kk ≤ L.length ∧ kk ≤ gg ∧ s6 = .int .i64 ((kk : Int) - 1) ∧ w = wr ∧ Aside0 (lastAt L (q : Int) L.length = lastAt L (q : Int) kk))
  case atStart => exact ⟨L.length, Nat.le_refl _, Nat.le_refl _, rfl, rfl, ⟨rfl⟩⟩
  case round =>
    obtain ⟨kk, hkk, hgg, rfl, rfl, HA⟩ := hrel
    cases kk with
    | zero =>
      have hq1 : IntKind.i64.wrap (64 * (q : Int)) = 64 * (q : Int) := wrapI (by omega) (by omega)
      have hq2 : IntKind.i64.wrap (64 * (q : Int) + 64) = 64 * (q : Int) + 64 := wrapI (by omega) (by omega)
      have hq3 : (64 * (q : Int)).toNat = q * 64 := by omega
      have hq4 : (64 * (q : Int) + 64).toNat = q * 64 + 64 := by omega
      have hq5 : (64 * (q : Int) + 64 - 64 * (q : Int)).toNat = 64 := by omega
      have hq6 : (64 * (q : Int)) ≤ ((n * 64 : Nat) : Int) := by omega
      have hcut := H.out.own.cut (off := q * 64) (m := 64) (by rw [HN.out]; omega)
      have HC := Aside0.mk hcut
      clear hcut
      have hlen : ((B.drop (q * 64)).take 64).length = 64 := by rw [List.length_take, List.length_drop, HN.out]; omega
      have HLn := Aside0.mk hlen
      clear hlen
      go_wp2_with (first
        | ((with_reducible refine gate_dst (N := 45) rfl ?_); refine Kd.R_lit (Kd.int .u8) _ 5 ?hg (N := 45) ?hd (xs := ([] : List (Int))) (inner := []) (ok := fun _ => True) (okp := fun _ => True) ?hr ?hp (fun _ hk => hk) trivial (Below.refl _ _) (Nat.le_refl _) (by simp) ?_; (case hd => rfl); (case hg => rfl); (case hr => first | (go_simp; done) | (go_simp; rfl)); (case hp => exact (Reps.none _ _)); intro v45 w1 ho5 hb hg_ hnew_; clear hg_ hnew_; have HO45 := Aside0.mk ho5; have HB45 := Aside0.mk hb; clear ho5 hb; have hp0a := (HB45.out.cell (p := ⟨p, 0, none⟩) hps).trans hp0)
        | ((with_reducible refine gate_builtin (b := .append) (xs := #[.tmp 45, .tmp 55]) rfl ?_); at_builtin; refine Kd.R_append_rows (Kd.int .u8) (w0 := w) w.heap.size rfl (.tmp 45) (.tmp 55) 22 5 (.int .u8 0) 1 rfl Try.underlying22 info5 rfl (by decide) (by omega) v45 [] ((B.drop (q * 64)).take 64) _ _ _ (fun _ => True) (fun _ => False) rfl rfl ?aO ?aR (fun _ _ h => h) (fun _ h => h.elim) ?aF ?aB ?aS ?aL ?_; (case aR => exact (Kd.C_below HC.out HB45.out)); (case aB => exact HB45.out); (case aF => exact (fun _ _ => trivial)); (case aO => exact HO45.out); (case aS => exact HB45.out.size); (case aL => have := HLn.out; first | (simp; done) | (simp; omega)); intro v56 w2 ho hb hg hat; have HO56 := Aside0.mk ho; have HB56 := Aside0.mk hb; clear ho hb hg hat; have ho := HO56.out; rw [List.nil_append] at ho; obtain ⟨g', cap', rfl, hg', hcc', hO'⟩ := own_form ho (by rw [HLn.out]; decide); (try rw [HLn.out] at hcc'); (try rw [HLn.out]); have HOf := Aside0.mk hO'; clear hO' ho HO56))
      have hrb : rblk B L (q : Int) = (B.drop (q * 64)).take 64 := by unfold rblk; rw [HA.out]; rfl
      go_ret2
      exact ⟨g', cap', rfl, hg', hcc', hrb ▸ HOf.out, HB56.out⟩
    | succ kk =>
      have hlt : kk < L.length := by omega
      obtain ⟨g, A', c', rfl, hgS, hc0, hc1, hle, hC, hN⟩ := H.out.item hlt
      have hgl := H.out.slt g hgS
      have HX := Aside0.mk (List.getElem?_eq_getElem hlt)
      have hxw := HW.out _ (List.getElem_mem hlt)
      generalize L[kk]'hlt = x at *
      obtain ⟨x1, x2⟩ := x
      simp only at hc0 hc1 hle hC hxw
      have HC : Aside0 (Kd.C (Kd.int .u8) w A' 64 x2) := ⟨by rw [hxw] at hC; exact hC⟩
      have HXW := Aside0.mk hxw
      rw [hxw] at hc1 hle
      clear hC hN hxw
      have hwk : IntKind.i64.wrap ((kk : Int) - 1) = (kk : Int) - 1 := wrapI (by omega) (by omega)
      have hk1 : (((kk + 1 : Nat) : Int) - 1) = (kk : Int) := by omega
      rw [hk1]
      have hstep : lastAt L (q : Int) (kk + 1) = if x1 = (q : Int) then some x2 else lastAt L (q : Int) kk := by
        show (match L[kk]? with | some x => if x.1 = (q : Int) then some x.2 else lastAt L (q : Int) kk | none => lastAt L (q : Int) kk) = _
        rw [HX.out]
      have HST := Aside0.mk hstep
      clear hstep hk1
      by_cases hx : x1 = (q : Int)
      · subst hx
        go_wp2_with (first
          | ((with_reducible refine gate_dst (N := 35) rfl ?_); refine Kd.R_lit (Kd.int .u8) _ 5 ?hg (N := 35) ?hd (xs := ([] : List (Int))) (inner := []) (ok := fun _ => True) (okp := fun _ => True) ?hr ?hp (fun _ hk => hk) trivial (Below.refl _ _) (Nat.le_refl _) (by simp) ?_; (case hd => rfl); (case hg => rfl); (case hr => first | (go_simp; done) | (go_simp; rfl)); (case hp => exact (Reps.none _ _)); intro v35 w1 ho5 hb hg_ hnew_; clear hg_ hnew_; have HO35 := Aside0.mk ho5; have HB35 := Aside0.mk hb; clear ho5 hb; have hp1a := (HB35.out.cell (p := ⟨p, 1, none⟩) hps).trans hp1; have hc1a := (HB35.out.cell (p := ⟨g, kk * 2 + 1, none⟩) hgl).trans hc1)
          | ((with_reducible refine gate_builtin (b := .append) (xs := #[.tmp 35, .tmp 43]) rfl ?_); at_builtin; refine Kd.R_append_rows (Kd.int .u8) (w0 := w) w.heap.size rfl (.tmp 35) (.tmp 43) 22 5 (.int .u8 0) 1 rfl Try.underlying22 info5 rfl (by decide) (by omega) v35 [] x2 _ _ _ (fun _ => True) (fun _ => False) rfl rfl ?aO ?aR (fun _ _ h => h) (fun _ h => h.elim) ?aF ?aB ?aS ?aL ?_; (case aR => exact (Kd.C_below HC.out HB35.out)); (case aB => exact HB35.out); (case aF => exact (fun _ _ => trivial)); (case aO => exact HO35.out); (case aS => exact HB35.out.size); (case aL => have := HXW.out; first | (simp; done) | (simp; omega)); intro v44 w2 ho hb hg hat; have HO44 := Aside0.mk ho; have HB44 := Aside0.mk hb; clear ho hb hg hat; have ho := HO44.out; rw [List.nil_append] at ho; obtain ⟨g', cap', rfl, hg', hcc', hO'⟩ := own_form ho (by rw [HXW.out]; decide); (try rw [HXW.out] at hcc'); (try rw [HXW.out]); have HOf := Aside0.mk hO'; clear hO' ho HO44))
        have hrb : rblk B L (q : Int) = x2 := by unfold rblk; rw [HA.out, HST.out]; simp
        go_ret2
        exact ⟨g', cap', rfl, hg', hcc', hrb ▸ HOf.out, HB44.out⟩
      · go_wp2
        all_goals go_roundg kk
        all_goals first
          | omega
          | exact ⟨kk, by omega, by omega, by go_num, rfl, ⟨by rw [HA.out, HST.out, if_neg hx]⟩⟩
end Go.Proofs.Ytpaiigonagiemaa.PAll
/- The reference's device: Write. -/
namespace Go.Proofs.Ytpaiigonagiemaa.PAll
open Go.Proofs.Ytpaiigonagiemaa.Help
open Go.RowKit Go.Proofs.YtpaiigonagiemaaW.PrintWords Go.Proofs.YtpaiigonagiemaaW.PrintLast Go.Proofs.YtpaiigonagiemaaW.PrintMore
open Go.Proofs.YtpaiigonagiemaaW.PrintWords.Kd (raw reads_raw)
set_option linter.unusedVariables false
set_option linter.unusedSimpArgs false

/-- The row of what waits is another one. -/
theorem DevAt.waits_put {TD TW : Nat} {w W : World} {S N N2 : Nat → Prop} {p gb cb : Nat} {vl v : Value} {B : List Int} {L L' : List (Int × List Int)} (h : DevAt TD TW w S N p gb cb vl B L) (hnd : TD ≠ 5) (hB : Below w.heap.size w W)
    (hR : OwnRow (WItem W (fun k => N k ∨ N2 k)) TW 2 W 0 v L') (hv : ∀ k, v.ownBlock = some k → w.heap.size ≤ k) (hN2 : ∀ k, N2 k → w.heap.size ≤ k ∧ k < W.heap.size ∧ v.ownBlock ≠ some k) :
    W.cell? ⟨p, 1, none⟩ = some vl ∧ W.frozen? ⟨p, 1, none⟩ = false ∧ DevTo TD TW w (W.setCell ⟨p, 1, none⟩ v) S N p B L' := by
  have hp : p < w.heap.size := h.slt p h.sp
  have hgb : gb < w.heap.size := h.slt gb h.sb
  have hWs := hB.size
  have hcp := (hB.block p hp).trans h.cell
  have hpb : gb ≠ p := fun e => by
    obtain ⟨cur, hcur, _⟩ := h.own
    have hc := h.cell
    rw [← e, hcur] at hc
    injection hc with hc; injection hc with _ hc _
    exact hnd hc.symm
  have hset : ∀ k, k ≠ p → (W.setCell ⟨p, 1, none⟩ v).heap[k]? = W.heap[k]? := fun k hk => Below.heap_setCell W _ v k hk
  have hsz : (W.setCell ⟨p, 1, none⟩ v).heap.size = W.heap.size := by simp
  refine ⟨cell_of_blk hcp rfl, blk_frozen hcp _, fun k => S k ∨ v.ownBlock = some k, fun k => N k ∨ N2 k, ⟨gb, cb, v, ?_⟩, ?_, ?_, ?_⟩
  · refine ⟨blk_put hcp 1 v rfl, h.own.same ((hset gb hpb).trans (hB.block gb hgb)), ?_, .inl h.sp, .inl h.sb, fun k hk => .inr hk, ?_, ?_, ?_⟩
    · refine OwnRow_same hR (fun k hk => hset k (fun e => by have := hv k hk; omega)) (fun y c hy => hy.same (fun k hk => hset k (fun e => ?_)) (fun _ h => h))
      subst e
      rcases hk with hk | hk
      · exact h.ns _ h.sp hk
      · have := (hN2 _ hk).1; omega
    · rintro k (hk | hk) (hn | hn)
      · exact h.ns k hk hn
      · have := h.slt k hk; have := (hN2 k hn).1; omega
      · have := h.nlt k hn; have := hv k hk; omega
      · exact (hN2 k hn).2.2 hk
    · rintro k (hk | hk)
      · have := h.slt k hk; rw [hsz]; omega
      · rw [hsz]; exact (OwnRow_lt hR hk).1
    · rintro k (hk | hk)
      · have := h.nlt k hk; rw [hsz]; omega
      · rw [hsz]; exact (hN2 k hk).2.1
  · exact (Fr.of_below (S := S) hB).trans (Fr.set (S := S) (p := ⟨p, 1, none⟩) h.sp v) (fun _ _ h => h)
  · rintro k (hk | hk)
    · exact .inl hk
    · exact .inr (hv k hk)
  · rintro k (hk | hk)
    · exact .inl hk
    · exact .inr (hN2 k hk).1
/-- Disk and waits are others. -/
theorem DevAt.disk_put {TD TW : Nat} {w W : World} {S N : Nat → Prop} {p gb cb gD cD : Nat} {vl : Value} {B B' : List Int} {L : List (Int × List Int)} (h : DevAt TD TW w S N p gb cb vl B L) (hB : Below w.heap.size w W)
    (hO : OwnBy W gD cD B') (hg : w.heap.size ≤ gD) :
    DevTo TD TW w ((W.setCell ⟨p, 0, none⟩ (.slice (some ⟨gD, 0, none⟩) B'.length cD)).setCell ⟨p, 1, none⟩ (.slice none 0 0)) S N p B' [] := by
  have hp : p < w.heap.size := h.slt p h.sp
  have hWs := hB.size
  have hcp := (hB.block p hp).trans h.cell
  have hgl := hO.lt
  have hset : ∀ k, k ≠ p → ((W.setCell ⟨p, 0, none⟩ (.slice (some ⟨gD, 0, none⟩) B'.length cD)).setCell ⟨p, 1, none⟩ (.slice none 0 0)).heap[k]? = W.heap[k]? := fun k hk =>
    (Below.heap_setCell _ _ _ k hk).trans (Below.heap_setCell W _ _ k hk)
  have hsz : ((W.setCell ⟨p, 0, none⟩ (.slice (some ⟨gD, 0, none⟩) B'.length cD)).setCell ⟨p, 1, none⟩ (.slice none 0 0)).heap.size = W.heap.size := by simp
  refine ⟨fun k => S k ∨ k = gD, N, ⟨gD, cD, .slice none 0 0, ?_⟩, ?_, ?_, fun k hk => .inl hk⟩
  · refine ⟨blk_put (blk_put hcp 0 _ rfl) 1 _ rfl, hO.same (hset gD (by omega)), OwnRow.none_ _ _ _ _ _, .inl h.sp, .inr rfl, fun k hk => by simp [Value.ownBlock] at hk, ?_, ?_, ?_⟩
    · rintro k (hk | rfl) hn
      · exact h.ns k hk hn
      · have := h.nlt _ hn; omega
    · rintro k (hk | rfl)
      · have := h.slt k hk; rw [hsz]; omega
      · rw [hsz]; exact hgl
    · intro k hk
      have := h.nlt k hk; rw [hsz]; omega
  · exact ((Fr.of_below (S := S) hB).trans (Fr.set (S := S) (p := ⟨p, 0, none⟩) h.sp _) (fun _ _ h => h)).trans (Fr.set (S := S) (p := ⟨p, 1, none⟩) h.sp _) (fun _ _ h => h)
  · rintro k (hk | rfl)
    · exact .inl hk
    · exact .inr hg
theorem ref_write_bad {w : World} {S N : Nat → Prop} {p : Nat} {B : List Int} {L : List (Int × List Int)} (h : Dev 49 87 w S N p B L) {n : Nat} (hn : B.length = n * 64) (hm : n ≤ 1024) {i : Int} {A : Option Addr} {l c : Nat} (hl : l ≤ 9223372036854775807) (hb : ¬ (0 ≤ i ∧ i < n) ∨ l ≠ 64) :
    Calls Try.prog 44 #[.pointer (some ⟨p, 0, none⟩), .int .i64 i, .slice A l c] w fun e w' => e = .returned (.int .i64 1) ∧ w = w' := by
  have hbl := Aside0.mk (ref_blocks h hn hm)
  clear h
  go_enter Try.func44, Try.ntmps44
  by_cases h0 : i < 0
  · go_wp2_with (go_at_call 43; refine hbl.out.mono ?_; rintro e w' ⟨rfl, rfl⟩)
    all_goals first | (exfalso; omega) | skip
    all_goals go_ret
    all_goals exact ⟨rfl, rfl⟩
  · by_cases h1 : (n : Int) ≤ i
    · go_wp2_with (go_at_call 43; refine hbl.out.mono ?_; rintro e w' ⟨rfl, rfl⟩)
      all_goals first | (exfalso; omega) | skip
      all_goals go_ret
      all_goals exact ⟨rfl, rfl⟩
    · have hl2 : ((l : Int) != 64) = true := by simp; omega
      go_wp2_with (go_at_call 43; refine hbl.out.mono ?_; rintro e w' ⟨rfl, rfl⟩)
      all_goals first | (exfalso; omega) | skip
      all_goals go_ret
      all_goals exact ⟨rfl, rfl⟩
set_option maxRecDepth 100000 in
set_option maxHeartbeats 4000000 in
theorem ref_write {w : World} {S N : Nat → Prop} {p : Nat} {B : List Int} {L : List (Int × List Int)} (h : Dev 49 87 w S N p B L) {n : Nat} (hn : B.length = n * 64) (hm : n ≤ 1024) (hL : L.length < 4294967296) {i : Int} (h0 : 0 ≤ i) (hi : i < n)
    {A : Option Addr} {c : Nat} {bs : List Int} (hr : Kd.C (Kd.int .u8) w A bs.length bs) (hc : bs.length ≤ c) (h64 : bs.length = 64) :
    Calls Try.prog 44 #[.pointer (some ⟨p, 0, none⟩), .int .i64 i, .slice A bs.length c] w fun e w' =>
      e = .returned (.int .i64 0) ∧ DevTo 49 87 w w' S N p B (L ++ [(i, bs)]) := by
  have hbl := Aside0.mk (ref_blocks h hn hm)
  obtain ⟨gb, cb, vl, h⟩ := h
  obtain ⟨A1, c1, rfl, hc1, hrd⟩ := h.row.reads
  obtain ⟨news, hnl, hnr, hnf⟩ := reads_raw hrd (fun y c hk => hk.shape)
  have hp1 := cell_of_blk h.cell (j := 1) rfl
  have hfz := blk_frozen h.cell 1
  have hps := h.slt p h.sp
  have H := Aside0.mk h
  have HR : Aside0 (Kd.C (Kd.int .u8) w A 64 bs) := ⟨by rw [h64] at hr; exact hr⟩
  have HNL := Aside0.mk hnl
  have HNR := Aside0.mk hnr
  have HNF := Aside0.mk hnf
  have HL0 := Aside0.mk hL
  have H64 := Aside0.mk h64
  rw [h64] at hc ⊢
  have hd0 : decide (i < 0) = false := by simp; omega
  have hd1 : decide ((n : Int) ≤ i) = false := by simp; omega
  clear h hn hr hnl hnr hnf hrd hL h64
  go_enter Try.func44, Try.ntmps44
  go_wp2_with (first
    | (go_at_call 43; refine hbl.out.mono ?_; rintro e w' ⟨rfl, rfl⟩)
    | ((with_reducible refine gate_dst (N := 21) rfl ?_); refine Kd.R_lit (raw 2) _ 87 ?hg (N := 21) ?hd (xs := ([] : List (List Value))) (inner := []) (ok := fun _ => True) (okp := fun _ => True) ?hr ?hp (fun _ hk => hk) trivial (Below.refl _ _) (Nat.le_refl _) (by simp) ?_; (case hd => rfl); (case hg => rfl); (case hr => first | (go_simp; done) | (go_simp; rfl)); (case hp => exact (Reps.none _ _)); intro v21 w1 ho5 hb hg_ hnew_; clear hg_ hnew_; have HO21 := Aside0.mk ho5; have HB21 := Aside0.mk hb; clear ho5 hb; have hp1a := (HB21.out.cell (p := ⟨p, 1, none⟩) hps).trans hp1)
    | ((with_reducible refine gate_builtin (b := .append) (xs := #[.tmp 21, .tmp 25]) rfl ?_); at_builtin; refine Kd.R_append_rows (raw 2) (w0 := w) w.heap.size rfl (.tmp 21) (.tmp 25) 47 87 (.agg #[.int .i64 0, .slice none 0 0]) 32 rfl Try.underlying47 infoRW rfl (by decide) (by omega) v21 [] news _ _ _ (fun _ => True) (fun _ => False) rfl rfl ?aO ?aR (fun _ _ h => h) (fun _ h => h.elim) ?aF ?aB ?aS ?aL ?_; (case aR => exact (Kd.C_below HNR.out HB21.out)); (case aB => exact HB21.out); (case aF => exact (fun _ _ => trivial)); (case aO => exact HO21.out); (case aS => exact HB21.out.size); (case aL => have := HL0.out; first | (simp; done) | (simp; omega)); intro v26 w2 ho hb hg hat; have HO26 := Aside0.mk ho; have HB26 := Aside0.mk hb; clear ho hb hg hat)
    | ((with_reducible refine gate_dst (N := 28) rfl ?_); refine Kd.R_lit (Kd.int .u8) _ 5 ?hg (N := 28) ?hd (xs := ([] : List (Int))) (inner := []) (ok := fun _ => True) (okp := fun _ => True) ?hr ?hp (fun _ hk => hk) trivial (Below.refl _ _) (Nat.le_refl _) (by simp) ?_; (case hd => rfl); (case hg => rfl); (case hr => first | (go_simp; done) | (go_simp; rfl)); (case hp => exact (Reps.none _ _)); intro v28 w3 ho5 hb hg_ hnew_; clear hg_ hnew_; have HO28 := Aside0.mk ho5; have HB28 := Aside0.mk hb; clear ho5 hb)
    | ((with_reducible refine gate_builtin (b := .append) (xs := #[.tmp 28, .tmp 29]) rfl ?_); at_builtin; refine Kd.R_append_rows (Kd.int .u8) (w0 := w2) w2.heap.size rfl (.tmp 28) (.tmp 29) 22 5 (.int .u8 0) 1 rfl Try.underlying22 info5 rfl (by decide) (by omega) v28 [] bs _ _ _ (fun _ => True) (fun _ => False) rfl rfl ?aO ?aR (fun _ _ h => h) (fun _ h => h.elim) ?aF ?aB ?aS ?aL ?_; (case aR => exact (Kd.C_below (Kd.C_below HR.out HB26.out) HB28.out)); (case aB => exact HB28.out); (case aF => exact (fun _ _ => trivial)); (case aO => exact HO28.out); (case aS => exact HB28.out.size); (case aL => have := H64.out; first | (simp; done) | (simp; omega)); intro v30 w4 ho hb hg hat; have HO30 := Aside0.mk ho; have HB30 := Aside0.mk hb; clear ho hb hg hat; have ho := HO30.out; rw [List.nil_append] at ho; obtain ⟨gA, cA, rfl, hgA, hcA, hO'⟩ := own_form ho (by rw [H64.out]; decide); (try rw [H64.out] at hcA); (try rw [H64.out]); have HOA := Aside0.mk hO'; clear hO' ho HO30)
    | ((with_reducible refine gate_builtin (b := .append) (xs := #[.tmp 26, .tmp 32]) rfl ?_); at_builtin
       have hBw4 : Below w.heap.size w w4 := below_step HB26.out HB30.out
       have hlt26 : ∀ k, v26.ownBlock = some k → k < w2.heap.size := fun k hk => (OwnRow_lt (OwnRow_of_raw (Rr := fun _ _ => True) (ps := news) (by have := HO26.out; rw [List.nil_append] at this; exact this) rfl (fun _ _ _ _ _ => trivial)) hk).1
       have hrow0 : OwnRow (WItem w4 (fun k => N k ∨ k = gA)) 87 2 w2 w.heap.size v26 L := OwnRow_of_raw (by have := HO26.out; rw [List.nil_append] at this; exact this) HNL.out (fun j x c h1 h2 => (HNF.out j x c h1 h2).same (fun k hk => hBw4.block k (H.out.nlt k hk)) (fun _ hk => .inl hk))
       have hrow4 : OwnRow (WItem w4 (fun k => N k ∨ k = gA)) 87 2 w4 w.heap.size v26 L := OwnRow_same hrow0 (fun k hk => HB30.out.block k (hlt26 k hk)) (fun _ _ h => h)
       refine OwnRow.append (R := WItem w4 (fun k => N k ∨ k = gA)) (w0 := w) (W := w4) w.heap.size rfl (.tmp 26) (.tmp 32) 47 87 (.agg #[.int .i64 0, .slice none 0 0]) 2 32 rfl Try.underlying47 infoRW rfl (by decide) (by decide) v26 L (i, bs) [.int .i64 i, .slice (some ⟨gA, 0, none⟩) 64 cA] rfl rfl (WItem_new H64.out HOA.out hcA) rfl (by simp [Value.oneCell']) hrow4 hBw4 hBw4.size (by have := HL0.out; omega) ?_
       intro v33 w5 hrow hb5 hg hv
       have hgl := HOA.out.lt
       have hne : v26.ownBlock ≠ some gA := fun e => by have := hlt26 _ e; omega
       have hbase : ∀ k, v26.ownBlock = some k → w.heap.size ≤ k := fun k hk => Kd.R_base HO26.out k hk
       have hs4 := hBw4.size
       have hs24 := HB30.out.size
       have hs26 := HB26.out.size
       have H5 : OwnRow (WItem w5 (fun k => N k ∨ k = gA)) 87 2 w5 0 v33 (L ++ [(i, bs)]) := (OwnRow_same hrow (fun _ _ => rfl) (fun y c hy => hy.same (fun k hk => by
         rcases hk with hk | hk
         · rw [hb5.block k (H.out.nlt k hk), hBw4.block k (H.out.nlt k hk)]
         · subst hk; exact grown_blk hg hgl hne) (fun _ h => h))).lower (Nat.zero_le _)
       have hq := DevAt.waits_put H.out (by decide) hb5 H5 (fun k hk => by
         rcases hv with e | ⟨b, e, hb⟩
         · exact hbase k (e ▸ hk)
         · rw [e] at hk; injection hk with hk; omega) (fun k hk => by
         subst hk
         refine ⟨by omega, Nat.lt_of_lt_of_le hgl hg.size, fun e => ?_⟩
         rcases hv with e' | ⟨b, e', hb⟩
         · exact hne (e' ▸ e)
         · rw [e'] at e; injection e with e; omega)
       obtain ⟨A2, c2, rfl, hc2⟩ := hrow.slice_
       obtain ⟨q1, q2, q3⟩ := hq
       have Q3 := Aside0.mk q3
       clear q3 hrow hb5 hg hv H5 hrow4 hrow0 hlt26 hbase hne hBw4))
  all_goals first | (exfalso; omega) | skip
  all_goals go_ret
  all_goals exact ⟨rfl, by have q := Q3.out; rw [List.length_append, List.length_singleton] at q; exact q⟩
end Go.Proofs.Ytpaiigonagiemaa.PAll
/- The reference's device: Sync. -/
namespace Go.Proofs.Ytpaiigonagiemaa.PAll
open Go.Proofs.Ytpaiigonagiemaa.Help
open Go.RowKit Go.Proofs.YtpaiigonagiemaaW.PrintWords Go.Proofs.YtpaiigonagiemaaW.PrintLast Go.Proofs.YtpaiigonagiemaaW.PrintMore
open Go.Proofs.YtpaiigonagiemaaW.PrintWords.Kd (raw reads_raw)
set_option linter.unusedVariables false
set_option linter.unusedSimpArgs false

/-- A block of a row is written. -/
theorem OwnBy.copied {w : World} {g cb n : Nat} {B : List Int} {x : Int × List Int} {cur : Array Value} (hn : B.length = n * 64) (h0 : 0 ≤ x.1) (h1 : x.1 < n) (h2 : x.2.length = 64)
    (hcur : w.heap[g]? = some (.cells cur 5 (0, 0))) (hcs : cur.size = cb) (hle : B.length ≤ cb) (hcm : cb ≤ maxLen) (htk : cur.toList.take B.length = B.map (Value.int .u8)) :
    OwnBy (w.setRow g (cur.toList.take (x.1.toNat * 64) ++ (x.2.map (Value.int .u8) ++ cur.toList.drop (x.1.toNat * 64 + 64))).toArray) g cb (dput B x) ∧
      Fr (fun k => k = g) w (w.setRow g (cur.toList.take (x.1.toNat * 64) ++ (x.2.map (Value.int .u8) ++ cur.toList.drop (x.1.toNat * 64 + 64))).toArray) := by
  have hlen := dput_length hn h0 h1 h2
  constructor
  · refine ⟨_, setRow_heap w g _ _ 5 _ hcur, ?_, by rw [hlen]; exact hle, hcm, ?_⟩
    · simp [h2]; omega
    · rw [hlen]
      obtain ⟨R, hR⟩ : ∃ R, cur.toList = B.map (Value.int .u8) ++ R := ⟨cur.toList.drop B.length, by rw [← htk, List.take_append_drop]⟩
      have ho : x.1.toNat * 64 + 64 ≤ (B.map (Value.int .u8)).length := by rw [List.length_map]; omega
      have e1 : (B.map (Value.int .u8) ++ R).take (x.1.toNat * 64) = (B.map (Value.int .u8)).take (x.1.toNat * 64) := List.take_append_of_le_length (by omega)
      have e2 : (B.map (Value.int .u8) ++ R).drop (x.1.toNat * 64 + 64) = (B.map (Value.int .u8)).drop (x.1.toNat * 64 + 64) ++ R := List.drop_append_of_le_length ho
      rw [hR, e1, e2]
      simp only [dput, List.map_append, List.map_take, List.map_drop]
      rw [← List.append_assoc, ← List.append_assoc, ← List.append_assoc]
      exact List.take_left' (by simp [h2] at ho ⊢; omega)
  · exact ⟨rfl, rfl, rfl, by simp [World.setRow], fun k hk hs => setRow_other w g k _ hs⟩
theorem step_row_copy {P : Program} {ops : Array Oper} {o : Oper} {a : Act} {w : World} {K : Act → World → Prop} {Q : Exit → Act → World → Prop} {E : Prop} {g cb n : Nat} {B : List Int} {x : Int × List Int}
    (h : OwnBy w g cb B) (hn : B.length = n * 64) (h0 : 0 ≤ x.1) (h1 : x.1 < n) (h2 : x.2.length = 64) {A' : Option Addr} (hr : Kd.C (Kd.int .u8) w A' x.2.length x.2)
    (hgd : o.guard = none) (d s : Operand) (dT sT : TypeId)
    (ho : o.op = .call { callee := .builtin .copy, args := #[d, s], argTypes := #[dT, sT] }) (hu : P.underlying dT = some (.slice 5)) (hsz : (P.info? 5).map (·.size) = some 1) (off dLen dCap sCap : Nat) (hoff : off = x.1.toNat * 64) (hdl : 64 ≤ dLen)
    (hd : a.eval d = .slice (some ⟨g, off, none⟩) dLen dCap) (hs : a.eval s = .slice A' 64 sCap)
    (hK : ∀ w' : World, OwnBy w' g cb (dput B x) → Fr (fun k => k = g) w w' → K (a.put o.dst (goInt 64)) w') :
    if Region.wanted o (yielded ops a.tmps) = true then Oper.wp P o a w K Q else E := by
  obtain ⟨cur, hcur, hcs, hle, hcm, htk⟩ := h
  obtain ⟨ad, rfl, hsrc⟩ := reads_cells hr (by omega)
  obtain ⟨q1, q2⟩ := OwnBy.copied hn h0 h1 h2 hcur hcs hle hcm htk
  have hl : (x.2.map (Value.int .u8)).length = 64 := by rw [List.length_map, h2]
  refine step_copy_row hgd d s dT sT ho 5 hu hsz g off dLen dCap ad 64 sCap hd hs cur 5 hcur (x.2.map (Value.int .u8)) (by rw [hl]; exact (Nat.min_eq_left hdl).symm) hsrc (by rw [hl]; omega) (by simp [Value.oneCell']) ?_
  rw [hl, hoff]
  exact hK _ q1 q2
set_option maxRecDepth 100000 in
set_option maxHeartbeats 4000000 in
theorem ref_sync {w : World} {S N : Nat → Prop} {p : Nat} {B : List Int} {L : List (Int × List Int)} (h : Dev 49 87 w S N p B L) {n : Nat} (hn : B.length = n * 64) (h4 : 4 ≤ n) (hm : n ≤ 1024) (hw : Waits n L) :
    Calls Try.prog 48 #[.pointer (some ⟨p, 0, none⟩)] w fun e w' =>
      e = .returned (.tuple #[]) ∧ DevTo 49 87 w w' S N p (aft (fun _ => true) L B L.length) [] := by
  obtain ⟨gb, cb, vl, h⟩ := h
  obtain ⟨A, c, rfl, hc, hL⟩ := h.lenL
  have hp0 := cell_of_blk h.cell (j := 0) rfl
  have hps := h.slt p h.sp
  have H := Aside0.mk h
  have HN := Aside0.mk hn
  have HW := Aside0.mk hw
  have hl : B.length ≤ 65536 := by omega
  have HLm := Aside0.mk hl
  have HRD : Aside0 (Kd.C (Kd.int .u8) w (some ⟨gb, 0, none⟩) (n * 64) B) := ⟨by have := h.own.reads; rw [hn] at this; exact this⟩
  rw [hn] at hp0
  have hcb : n * 64 ≤ cb := by obtain ⟨_, _, _, h2, _⟩ := h.own; omega
  clear h hn hw hl
  go_enter Try.func48, Try.ntmps48
  go_wp2_with (first
    | ((with_reducible refine gate_dst (N := 4) rfl ?_); refine Kd.R_lit (Kd.int .u8) _ 5 ?hg (N := 4) ?hd (xs := ([] : List (Int))) (inner := []) (ok := fun _ => True) (okp := fun _ => True) ?hr ?hp (fun _ hk => hk) trivial (Below.refl _ _) (Nat.le_refl _) (by simp) ?_; (case hd => rfl); (case hg => rfl); (case hr => first | (go_simp; done) | (go_simp; rfl)); (case hp => exact (Reps.none _ _)); intro v4 w1 ho5 hb hg_ hnew_; clear hg_ hnew_; have HO4 := Aside0.mk ho5; have HB4 := Aside0.mk hb; clear ho5 hb; have hp0a := (HB4.out.cell (p := ⟨p, 0, none⟩) hps).trans hp0)
    | ((with_reducible refine gate_builtin (b := .append) (xs := #[.tmp 4, .tmp 8]) rfl ?_); at_builtin; refine Kd.R_append_rows (Kd.int .u8) (w0 := w) w.heap.size rfl (.tmp 4) (.tmp 8) 22 5 (.int .u8 0) 1 rfl Try.underlying22 info5 rfl (by decide) (by omega) v4 [] B _ _ _ (fun _ => True) (fun _ => False) rfl rfl ?aO ?aR (fun _ _ h => h) (fun _ h => h.elim) ?aF ?aB ?aS ?aL ?_; (case aR => exact (Kd.C_below HRD.out HB4.out)); (case aB => exact HB4.out); (case aF => exact (fun _ _ => trivial)); (case aO => exact HO4.out); (case aS => exact HB4.out.size); (case aL => have := HLm.out; first | (simp; done) | (simp; omega)); intro v9 w2 ho hb hg hat; have HO9 := Aside0.mk ho; have HB9 := Aside0.mk hb; clear ho hb hg hat; have ho := HO9.out; rw [List.nil_append] at ho; obtain ⟨gD, cD, rfl, hgD, hcD, hO'⟩ := own_form ho (by rw [HN.out]; omega); (try rw [HN.out] at hcD); (try rw [HN.out]); have HOD := Aside0.mk hO'; clear hO' ho HO9))
  go_loopg [3] L.length (fun gg s3 wr => ∃ kk : Nat, kk ≤ L.length ∧ L.length - kk ≤ gg ∧ s3 = .int .i64 kk ∧ Aside0 (OwnBy wr gD cD (aft (fun _ => true) L B kk)) ∧ Aside0 (Below w.heap.size w wr))
  case atStart => exact ⟨0, Nat.zero_le _, by omega, rfl, HOD, HB9⟩
  case round =>
    obtain ⟨kk, hkk, hgg, rfl, HO, HB⟩ := hrel
    have hD := H.out.keep HB.out.size (fun k hk => HB.out.block k (by rcases hk with hk | hk; exact H.out.slt k hk; exact H.out.nlt k hk))
    have hp1 := cell_of_blk hD.cell (j := 1) rfl
    by_cases hlt : kk < L.length
    · obtain ⟨g, A', c', rfl, hgS, hc0, hc1, hle, hC, hNx⟩ := hD.item hlt
      have HX := Aside0.mk (List.getElem?_eq_getElem hlt)
      have hxw := HW.out _ (List.getElem_mem hlt)
      generalize L[kk]'hlt = x at *
      obtain ⟨x1, x2⟩ := x
      simp only at hc0 hc1 hle hC hxw
      obtain ⟨hx0, hx1, hx2⟩ := hxw
      obtain ⟨q, rfl⟩ := Int.eq_ofNat_of_zero_le hx0
      have HX2 := Aside0.mk hx2
      have hq : q < n := by omega
      have hCd : Aside0 (Kd.C (Kd.int .u8) wr.drew A' x2.length x2) := ⟨C_same hC (fun a _ => rfl)⟩
      have HOd : Aside0 (OwnBy wr.drew gD cD (aft (fun _ => true) L B kk)) := ⟨HO.out.same rfl⟩
      rw [hx2] at hc1 hle
      have hstep : aft (fun _ => true) L B (kk + 1) = dput (aft (fun _ => true) L B kk) ((q : Int), x2) := by simp [aft, HX.out]
      have HS := Aside0.mk hstep
      have HDd : Aside0 (w.heap.size ≤ gD) := ⟨hgD⟩
      clear hstep hx2 hx0 hx1 hC hNx
      have hwr : IntKind.i64.wrap (64 * (q : Int)) = 64 * (q : Int) := wrapI (by omega) (by omega)
      have hq1 : (0 : Int) ≤ 64 * (q : Int) := by omega
      have hq2 : 64 * (q : Int) ≤ ((n * 64 : Nat) : Int) := by omega
      have hq3 : (64 * (q : Int)).toNat = q * 64 := by omega
      have hq4 : ¬ cD = q * 64 := by omega
      have hdp : wr.drew.cell? ⟨p, 1, none⟩ = some (.slice (some ⟨g, 0, none⟩) L.length c) := hp1
      have hd0 : wr.drew.cell? ⟨g, kk * 2, none⟩ = some (.int .i64 q) := hc0
      have hd1 : wr.drew.cell? ⟨g, kk * 2 + 1, none⟩ = some (.slice A' 64 c') := hc1
      clear hD
      go_upto_region 4 with fail
      have hBs : w.heap.size ≤ wr.drew.heap.size := HB.out.size
      have hpd : p < wr.drew.heap.size := Nat.lt_of_lt_of_le hps hBs
      have hgs := H.out.slt g hgS
      have hgd : g < wr.drew.heap.size := Nat.lt_of_lt_of_le hgs hBs
      have hng : g ≠ gD := by omega
      have hnp : p ≠ gD := by omega
      refine wp_region_noPanic ?_
      refine wp_region_held_drew (S := (fun w' => w'.cell? ⟨p, 1, none⟩ = some (.slice (some ⟨g, 0, none⟩) L.length c) ∧ w'.cell? ⟨g, kk * 2, none⟩ = some (.int .i64 q) ∧ w'.cell? ⟨g, kk * 2 + 1, none⟩ = some (.slice A' 64 c'))) (by kernel_rfl) ?_ (fun hHeld => ?_)
      · (try dsimp only) <;> (first | assumption | exact ⟨hdp5, hd05, hd15⟩ | exact ⟨hdp, hd0, hd1⟩)
      refine held_take 0 (v := ?_) rfl (by kernel_rfl) (fun _ _ _ h => h) (by rfl) ?_ (by assumption) ?_
      rotate_left 1
      · (intro w hSw; (try dsimp only at hSw); go_simp)
        all_goals with_reducible rfl
      (try simp only [Act.put, List.setIfInBounds_toArray, List.set_cons_zero, List.set_cons_succ])
      refine held_take 1 (v := ?_) rfl (by kernel_rfl) (fun _ _ _ h => h) (by rfl) ?_ (by assumption) ?_
      rotate_left 1
      · (intro w hSw; (try dsimp only at hSw); go_simp)
        all_goals with_reducible rfl
      (try simp only [Act.put, List.setIfInBounds_toArray, List.set_cons_zero, List.set_cons_succ])
      refine held_take 2 (v := ?_) rfl (by kernel_rfl) (fun _ _ _ h => h) (by rfl) ?_ (by assumption) ?_
      rotate_left 1
      · (intro w hSw; (try dsimp only at hSw); go_simp)
        all_goals with_reducible rfl
      (try simp only [Act.put, List.setIfInBounds_toArray, List.set_cons_zero, List.set_cons_succ])
      refine held_take 3 (v := ?_) rfl (by kernel_rfl) (fun _ _ _ h => h) (by rfl) ?_ (by assumption) ?_
      rotate_left 1
      · (intro w hSw; (try dsimp only at hSw); go_simp)
        all_goals with_reducible rfl
      (try simp only [Act.put, List.setIfInBounds_toArray, List.set_cons_zero, List.set_cons_succ])
      refine held_take 4 (v := ?_) rfl (by kernel_rfl) (fun _ _ _ h => h) (by rfl) ?_ (by assumption) ?_
      rotate_left 1
      · (intro w hSw; (try dsimp only at hSw); go_simp)
        all_goals with_reducible rfl
      (try simp only [Act.put, List.setIfInBounds_toArray, List.set_cons_zero, List.set_cons_succ])
      refine held_take 5 (v := ?_) rfl (by kernel_rfl) (fun _ _ _ h => h) (by rfl) ?_ (by assumption) ?_
      rotate_left 1
      · (intro w hSw; (try dsimp only at hSw); go_simp)
        all_goals with_reducible rfl
      (try simp only [Act.put, List.setIfInBounds_toArray, List.set_cons_zero, List.set_cons_succ])
      refine held_take 6 (v := ?_) rfl (by kernel_rfl) (fun _ _ _ h => h) (by rfl) ?_ (by assumption) ?_
      rotate_left 1
      · (intro w hSw; (try dsimp only at hSw); go_simp)
        all_goals with_reducible rfl
      (try simp only [Act.put, List.setIfInBounds_toArray, List.set_cons_zero, List.set_cons_succ])
      refine held_take 7 (v := ?_) rfl (by kernel_rfl) (fun _ _ _ h => h) (by rfl) ?_ (by assumption) ?_
      rotate_left 1
      · (intro w hSw; (try dsimp only at hSw); go_simp)
        all_goals with_reducible rfl
      (try simp only [Act.put, List.setIfInBounds_toArray, List.set_cons_zero, List.set_cons_succ])
      refine held_take 8 (v := ?_) rfl (by kernel_rfl) (fun _ _ _ h => h) (by rfl) ?_ (by assumption) ?_
      rotate_left 1
      · (intro w hSw; (try dsimp only at hSw); go_simp)
        all_goals with_reducible rfl
      (try simp only [Act.put, List.setIfInBounds_toArray, List.set_cons_zero, List.set_cons_succ])
      refine held_take 9 (v := ?_) rfl (by kernel_rfl) (fun _ _ _ h => h) (by rfl) ?_ (by assumption) ?_
      rotate_left 1
      · (intro w hSw; (try dsimp only at hSw); go_simp)
        all_goals with_reducible rfl
      (try simp only [Act.put, List.setIfInBounds_toArray, List.set_cons_zero, List.set_cons_succ])
      refine held_take 11 (v := ?_) rfl (by kernel_rfl) (fun _ _ _ h => h) (by rfl) ?_ (by assumption) ?_
      rotate_left 1
      · (intro w hSw; (try dsimp only at hSw); go_simp)
        all_goals with_reducible rfl
      (try simp only [Act.put, List.setIfInBounds_toArray, List.set_cons_zero, List.set_cons_succ])
      refine held_take 12 (v := ?_) rfl (by kernel_rfl) (fun _ _ _ h => h) (by rfl) ?_ (by assumption) ?_
      rotate_left 1
      · (intro w hSw; (try dsimp only at hSw); go_simp)
        all_goals with_reducible rfl
      (try simp only [Act.put, List.setIfInBounds_toArray, List.set_cons_zero, List.set_cons_succ])
      refine held_take 13 (v := ?_) rfl (by kernel_rfl) (fun _ _ _ h => h) (by rfl) ?_ (by assumption) ?_
      rotate_left 1
      · (intro w hSw; (try dsimp only at hSw); go_simp)
        all_goals with_reducible rfl
      (try simp only [Act.put, List.setIfInBounds_toArray, List.set_cons_zero, List.set_cons_succ])
      refine held_take 14 (v := ?_) rfl (by kernel_rfl) (fun _ _ _ h => h) (by rfl) ?_ (by assumption) ?_
      rotate_left 1
      · (intro w hSw; (try dsimp only at hSw); go_simp)
        all_goals with_reducible rfl
      (try simp only [Act.put, List.setIfInBounds_toArray, List.set_cons_zero, List.set_cons_succ])
      refine held_take 15 (v := ?_) rfl (by kernel_rfl) (fun _ _ _ h => h) (by rfl) ?_ (by assumption) ?_
      rotate_left 1
      · (intro w hSw; (try dsimp only at hSw); go_simp)
        all_goals with_reducible rfl
      (try simp only [Act.put, List.setIfInBounds_toArray, List.set_cons_zero, List.set_cons_succ])
      refine held_take 16 (v := ?_) rfl (by kernel_rfl) (fun _ _ _ h => h) (by rfl) ?_ (by assumption) ?_
      rotate_left 1
      · (intro w hSw; (try dsimp only at hSw); go_simp)
        all_goals with_reducible rfl
      (try simp only [Act.put, List.setIfInBounds_toArray, List.set_cons_zero, List.set_cons_succ])
      refine held_take 17 (v := ?_) rfl (by kernel_rfl) (fun _ _ _ h => h) (by rfl) ?_ (by assumption) ?_
      rotate_left 1
      · (intro w hSw; (try dsimp only at hSw); go_simp)
        all_goals with_reducible rfl
      (try simp only [Act.put, List.setIfInBounds_toArray, List.set_cons_zero, List.set_cons_succ])
      refine held_take 18 (v := ?_) rfl (by kernel_rfl) (fun _ _ _ h => h) (by rfl) ?_ (by assumption) ?_
      rotate_left 1
      · (intro w hSw; (try dsimp only at hSw); go_simp)
        all_goals with_reducible rfl
      (try simp only [Act.put, List.setIfInBounds_toArray, List.set_cons_zero, List.set_cons_succ])
      refine wpAnyH_ready (rs := [10]) (by kernel_rfl) (by simp) ?_
      refine held_step 10 rfl (fun K hK => ?_) ?_
      · go_simp
        (first | refine hK.out _ _ ?_ ?_ | (go_wp2_with (first | (refine step_row_copy (x := ((q : Int), x2)) HOd.out (aft_length HN.out HW.out kk) (Int.natCast_nonneg q) (by simp only; omega) HX2.out hCd.out rfl (.tmp 29) (.tmp 37) 22 22 rfl Try.underlying22 sizeB (q * 64) (n * 64 - q * 64) _ _ rfl (by omega) rfl rfl ?_; intro w5 hO5 hF5; have hdp5 := (World.cell?_of_block (w := wr.drew) (a := ⟨p, 1, none⟩) (hF5.block p hpd hnp)).trans hdp; have hd05 := (World.cell?_of_block (w := wr.drew) (a := ⟨g, kk * 2, none⟩) (hF5.block g hgd hng)).trans hd0; have hd15 := (World.cell?_of_block (w := wr.drew) (a := ⟨g, kk * 2 + 1, none⟩) (hF5.block g hgd hng)).trans hd1; have HO5 := Aside0.mk hO5; have HF5 := Aside0.mk hF5; clear hO5 hF5)); refine hK.out _ _ ?_ ?_))
        · (try dsimp only) <;> (first | assumption | exact ⟨hdp5, hd05, hd15⟩ | exact ⟨hdp, hd0, hd1⟩)
        clear hK K hHeld
        intro hHeld
        (try simp only [Act.put, List.setIfInBounds_toArray, List.set_cons_zero, List.set_cons_succ])
        refine wpAnyH_ready (rs := [19]) (by kernel_rfl) (by simp) ?_
        refine held_step 19 rfl (fun K hK => ?_) ?_
        · (first | (refine step_row_copy (x := ((q : Int), x2)) HOd.out (aft_length HN.out HW.out kk) (Int.natCast_nonneg q) (by simp only; omega) HX2.out hCd.out rfl (.tmp 29) (.tmp 37) 22 22 rfl Try.underlying22 sizeB (q * 64) (n * 64 - q * 64) _ _ rfl (by omega) rfl rfl ?_; intro w5 hO5 hF5; have hdp5 := (World.cell?_of_block (w := wr.drew) (a := ⟨p, 1, none⟩) (hF5.block p hpd hnp)).trans hdp; have hd05 := (World.cell?_of_block (w := wr.drew) (a := ⟨g, kk * 2, none⟩) (hF5.block g hgd hng)).trans hd0; have hd15 := (World.cell?_of_block (w := wr.drew) (a := ⟨g, kk * 2 + 1, none⟩) (hF5.block g hgd hng)).trans hd1; have HO5 := Aside0.mk hO5; have HF5 := Aside0.mk hF5; clear hO5 hF5))
          refine hK.out _ _ ?_ ?_
          · (try dsimp only) <;> (first | assumption | exact ⟨hdp5, hd05, hd15⟩ | exact ⟨hdp, hd0, hd1⟩)
          clear hK K hHeld
          intro hHeld
          (try simp only [Act.put, List.setIfInBounds_toArray, List.set_cons_zero, List.set_cons_succ])
          refine wpAnyH_done (by kernel_rfl) ?_ _
          refine NoPanic.normal ?_
          all_goals go_wp2
          all_goals go_roundg (L.length - (kk + 1))
          all_goals first
            | omega
            | exact ⟨kk + 1, by omega, by omega, by go_num, ⟨by rw [HS.out]; exact HO5.out⟩, ⟨(HB.out.trans (⟨rfl, rfl, rfl, Nat.le_refl _, fun _ _ => rfl⟩ : Below w.heap.size wr wr.drew)).trans (HF5.out.below hBs (fun k hk => hk ▸ hgD))⟩⟩
        exact AllReadyH.nil
      exact AllReadyH.nil
    · have : kk = L.length := by omega
      subst this
      have hq := DevAt.disk_put H.out HB.out HO.out hgD
      rw [aft_length HN.out HW.out] at hq
      have HQ := Aside0.mk hq
      have hz0 := cell_of_blk hD.cell (j := 0) rfl
      have hf0 := blk_frozen hD.cell 0
      have hf1 := blk_frozen hD.cell 1
      clear hq hD
      go_wp2
      go_end0
      exact ⟨rfl, HQ.out⟩
end Go.Proofs.Ytpaiigonagiemaa.PAll
/- The reference's device: Twin, Bytes. -/
namespace Go.Proofs.Ytpaiigonagiemaa.PAll
open Go.Proofs.Ytpaiigonagiemaa.Help
open Go.RowKit Go.Proofs.YtpaiigonagiemaaW.PrintWords Go.Proofs.YtpaiigonagiemaaW.PrintLast Go.Proofs.YtpaiigonagiemaaW.PrintMore
open Go.Proofs.YtpaiigonagiemaaW.PrintWords.Kd (raw reads_raw)
set_option linter.unusedVariables false
set_option linter.unusedSimpArgs false

theorem R_of_blk {α : Type} {d : Kd α} {t base g : Nat} {W : World} (h : W.heap[g]? = some (.cells #[] t (0, 0))) (hb : base ≤ g) : d.R t W base (fun _ => True) (.slice (some ⟨g, 0, none⟩) 0 0) ([] : List α) :=
  ⟨fun _ _ => trivial, [], ⟨by simp, .inr ⟨g, 0, #[], rfl, hb, h, Nat.le_refl _, by unfold maxLen; omega, by simp, by simp⟩⟩, Reps.none _ _⟩
theorem ne_of_hat {gB cB n g3 sz k : Nat} (hat : (Value.slice (some ⟨gB, 0, none⟩) n cB).ownBlock = (Value.slice (some ⟨g3, 0, none⟩) 0 0).ownBlock ∨ ∃ b, (Value.slice (some ⟨gB, 0, none⟩) n cB).ownBlock = some b ∧ sz ≤ b) (h3 : g3 ≠ k) (hs : k < sz) : gB ≠ k := by
  rcases hat with e | ⟨b, e, hb⟩
  · simp [Value.ownBlock] at e
    omega
  · simp [Value.ownBlock] at e
    omega
set_option maxRecDepth 100000 in
set_option maxHeartbeats 4000000 in
theorem ref_twin {w : World} {S N : Nat → Prop} {p : Nat} {B : List Int} {L : List (Int × List Int)} (h : Dev 49 87 w S N p B L) {n : Nat} (hn : B.length = n * 64) (h4 : 4 ≤ n) (hm : n ≤ 1024) (hl : L.length < 4294967296) :
    Calls Try.prog 47 #[.pointer (some ⟨p, 0, none⟩)] w fun e w' =>
      ∃ p2, e = .returned (.pointer (some ⟨p2, 0, none⟩)) ∧ DevNew 49 87 w w' N p2 B L := by
  obtain ⟨gb, cb, vl, h⟩ := h
  obtain ⟨A1, c1, rfl, hc1, hrd⟩ := h.row.reads
  obtain ⟨news, hnl, hnr, hnf⟩ := reads_raw hrd (fun y c hk => hk.shape)
  have hp0 := cell_of_blk h.cell (j := 0) rfl
  have hp1 := cell_of_blk h.cell (j := 1) rfl
  have hps := h.slt p h.sp
  have HRD : Aside0 (Kd.C (Kd.int .u8) w (some ⟨gb, 0, none⟩) (n * 64) B) := ⟨by have := h.own.reads; rw [hn] at this; exact this⟩
  rw [hn] at hp0
  have H := Aside0.mk h
  have HNL := Aside0.mk hnl
  have HNR := Aside0.mk hnr
  have HNF := Aside0.mk hnf
  have HL0 := Aside0.mk hl
  have HN := Aside0.mk hn
  have HB0 : Aside0 (Below w.heap.size w w.drew) := ⟨⟨rfl, rfl, rfl, Nat.le_refl _, fun _ _ => rfl⟩⟩
  have hd0 : w.drew.cell? ⟨p, 0, none⟩ = some (.slice (some ⟨gb, 0, none⟩) (n * 64) cb) := hp0
  have hd1 : w.drew.cell? ⟨p, 1, none⟩ = some (.slice A1 L.length c1) := hp1
  have hpd : p < w.drew.heap.size := hps
  clear h hn hnl hnr hnf hrd hl
  go_enter Try.func47, Try.ntmps47
  go_wp2
  have b1 : Aside0 (Below w.heap.size w (w.alloc (.cells #[] 5)).drew) := ⟨(HB0.out.alloc (Nat.le_refl _) (.cells #[] 5))⟩
  have b2 : Aside0 (Below w.heap.size w ((w.alloc (.cells #[] 5)).alloc (.cells #[] 87)).drew) := ⟨(HB0.out.alloc (Nat.le_refl _) (.cells #[] 5)).alloc (by simp) (.cells #[] 87)⟩
  have b3 : Aside0 (Below w.heap.size w ((w.alloc (.cells #[] 87)).alloc (.cells #[] 5)).drew) := ⟨(HB0.out.alloc (Nat.le_refl _) (.cells #[] 87)).alloc (by simp) (.cells #[] 5)⟩
  have s1 : (w.alloc (.cells #[] 5)).drew.heap.size = w.heap.size + 1 := by show (w.alloc (.cells #[] 5)).heap.size = _; simp
  have s2 : ((w.alloc (.cells #[] 5)).alloc (.cells #[] 87)).drew.heap.size = w.heap.size + 2 := by show ((w.alloc (.cells #[] 5)).alloc (.cells #[] 87)).heap.size = _; simp
  have s3 : ((w.alloc (.cells #[] 87)).alloc (.cells #[] 5)).drew.heap.size = w.heap.size + 2 := by show ((w.alloc (.cells #[] 87)).alloc (.cells #[] 5)).heap.size = _; simp
  have k1 : Aside0 ((w.alloc (.cells #[] 5)).drew.heap[w.heap.size]? = some (.cells #[] 5)) := ⟨new_blk _ _⟩
  have k2 : Aside0 (((w.alloc (.cells #[] 5)).alloc (.cells #[] 87)).drew.heap[w.heap.size]? = some (.cells #[] 5)) := ⟨(Below.heap_alloc (w.alloc (.cells #[] 5)) (.cells #[] 87) w.heap.size (by simp)).trans (new_blk _ _)⟩
  have k2' : Aside0 (((w.alloc (.cells #[] 5)).alloc (.cells #[] 87)).drew.heap[w.heap.size + 1]? = some (.cells #[] 87)) := ⟨by have := new_blk (w.alloc (.cells #[] 5)) (.cells #[] 87); rw [show (w.alloc (.cells #[] 5)).heap.size = w.heap.size + 1 from by simp] at this; exact this⟩
  have k3 : Aside0 (((w.alloc (.cells #[] 87)).alloc (.cells #[] 5)).drew.heap[w.heap.size + 1]? = some (.cells #[] 5)) := ⟨by have := new_blk (w.alloc (.cells #[] 87)) (.cells #[] 5); rw [show (w.alloc (.cells #[] 87)).heap.size = w.heap.size + 1 from by simp] at this; exact this⟩
  have k3' : Aside0 (((w.alloc (.cells #[] 87)).alloc (.cells #[] 5)).drew.heap[w.heap.size]? = some (.cells #[] 87)) := ⟨(Below.heap_alloc (w.alloc (.cells #[] 87)) (.cells #[] 5) w.heap.size (by simp)).trans (new_blk _ _)⟩
  go_region_held3 (fun w' => w'.cell? ⟨p, 0, none⟩ = some (.slice (some ⟨gb, 0, none⟩) (n * 64) cb) ∧ w'.cell? ⟨p, 1, none⟩ = some (.slice A1 L.length c1))
    (first | assumption | exact ⟨hd0, hd1⟩ | exact ⟨h0b, h1b⟩ | exact ⟨h0c, h1c⟩ | (constructor <;> (first | assumption | (simp [*, World.cell?_alloc_some]; done))))
    (first
      | (refine Kd.R_append_rows_step (Kd.int .u8) (w0 := w) w.heap.size (by simp [Region.wanted]) (.tmp 3) (.tmp 7) 22 5 (.int .u8 0) 1 rfl Try.underlying22 info5 rfl (by decide) (by omega) _ [] B _ _ _ (fun _ => True) (fun _ => False) rfl rfl (by first | exact R_of_blk k1.out (Nat.le_refl _) | exact R_of_blk k2.out (Nat.le_refl _) | exact R_of_blk k3.out (by omega)) (by first | exact Kd.C_below HRD.out b1.out | exact Kd.C_below HRD.out b2.out | exact Kd.C_below HRD.out b3.out) (fun _ _ h => h) (fun _ h => h.elim) (fun _ _ => trivial) (by first | exact b1.out | exact b2.out | exact b3.out) (by first | exact b1.out.size | exact b2.out.size | exact b3.out.size) (by first | (simp; done) | (simp; omega)) ?_
         intro v8 w5 ho hb hg hat
         (try (have hg2 : ((w.alloc (.cells #[] 5)).alloc (.cells #[] 87)).drew.grownBy w5 (some w.heap.size) := hg; have k9a : Aside0 (w5.heap[w.heap.size + 1]? = some (.cells #[] 87)) := ⟨(grown_blk hg2 (by rw [s2]; omega) (by simp)).trans k2'.out⟩; clear hg2))
         (try (have hg3 : ((w.alloc (.cells #[] 87)).alloc (.cells #[] 5)).drew.grownBy w5 (some (w.heap.size + 1)) := hg; have k9b : Aside0 (w5.heap[w.heap.size]? = some (.cells #[] 87)) := ⟨(grown_blk hg3 (by rw [s3]; omega) (by simp)).trans k3'.out⟩; clear hg3))
         rw [List.nil_append] at ho
         obtain ⟨gB, cB, rfl, hgB, hcB, hOB⟩ := own_form ho (by rw [HN.out]; omega)
         rw [HN.out] at hcB ⊢
         have HOB := Aside0.mk hOB
         have HB5 := Aside0.mk hb
         (try (have hne2 : Aside0 (gB ≠ w.heap.size + 1) := ⟨ne_of_hat hat (by omega) (by first | (rw [s2]; omega) | (rw [s3]; omega))⟩))
         (try (have hne3 : Aside0 (gB ≠ w.heap.size) := ⟨ne_of_hat hat (by omega) (by first | (rw [s2]; omega) | (rw [s3]; omega))⟩))
         have h0b : w5.cell? ⟨p, 0, none⟩ = some (.slice (some ⟨gb, 0, none⟩) (n * 64) cb) := (HB5.out.cell (p := ⟨p, 0, none⟩) hps).trans hp0
         have h1b : w5.cell? ⟨p, 1, none⟩ = some (.slice A1 L.length c1) := (HB5.out.cell (p := ⟨p, 1, none⟩) hps).trans hp1
         clear ho hOB hb hg hat)
      | (refine Kd.R_append_rows_step (raw 2) (w0 := w) w.heap.size (by simp [Region.wanted]) (.tmp 9) (.tmp 13) 47 87 (.agg #[.int .i64 0, .slice none 0 0]) 32 rfl Try.underlying47 infoRW rfl (by decide) (by omega) _ [] news _ _ _ (fun _ => True) (fun _ => False) rfl rfl (by first | exact R_of_blk (new_blk _ _) HB5.out.size | exact R_of_blk k9a.out (by omega) | exact R_of_blk k9b.out (Nat.le_refl _)) (by first | exact Kd.C_below HNR.out HB5.out | exact Kd.C_below HNR.out (HB5.out.alloc HB5.out.size _)) (fun _ _ h => h) (fun _ h => h.elim) (fun _ _ => trivial) (by first | exact HB5.out | exact HB5.out.alloc HB5.out.size _) (by first | exact HB5.out.size | exact (HB5.out.alloc HB5.out.size _).size) (by have := HL0.out; have := HNL.out; first | (simp; done) | (simp; omega)) ?_
         intro v14 w6 ho hb hg hat
         have h0c : w6.cell? ⟨p, 0, none⟩ = some (.slice (some ⟨gb, 0, none⟩) (n * 64) cb) := (hb.cell (p := ⟨p, 0, none⟩) hps).trans hp0
         have h1c : w6.cell? ⟨p, 1, none⟩ = some (.slice A1 L.length c1) := (hb.cell (p := ⟨p, 1, none⟩) hps).trans hp1
         have hgl := HOB.out.lt
         have HOB6 : Aside0 (OwnBy w6 gB cB B) := ⟨by
           first
             | exact HOB.out.same (grown_blk (show w5.grownBy w6 (some (w.heap.size + 1)) from hg) hgl (fun e => hne2.out (Option.some.inj e).symm))
             | exact HOB.out.same (grown_blk (show w5.grownBy w6 (some w.heap.size) from hg) hgl (fun e => hne3.out (Option.some.inj e).symm))
             | exact HOB.out.same ((grown_blk (show (w5.alloc (.cells #[] 87)).grownBy w6 (some w5.heap.size) from hg) (by simp; omega) (fun e => Nat.ne_of_gt hgl (Option.some.inj e))).trans (Below.heap_alloc w5 _ gB hgl))⟩
         have HB6 := Aside0.mk hb
         rw [List.nil_append] at ho
         have HO14 := Aside0.mk ho
         obtain ⟨A14, c14, rfl⟩ := Kd.R_slice ho
         clear ho hb hg hat hgl)
      | fail)
  all_goals go_wp2
  all_goals go_ret
  all_goals (refine ⟨w6.heap.size, rfl, ?_⟩; have q := DevNew.twin H.out HB6.out (by decide) (by decide) HOB6.out hgB (Below.refl _ _) ((OwnRow_of_raw HO14.out HNL.out HNF.out).lower (Nat.zero_le _)) (Below.refl _ _) (Below.refl _ _) (fun k hk => Kd.R_base HO14.out k hk); rw [HN.out] at q; exact q)
theorem ref_bytes {w : World} {S N : Nat → Prop} {p : Nat} {B : List Int} {L : List (Int × List Int)} (h : Dev 49 87 w S N p B L) {n : Nat} (hn : B.length = n * 64) (h4 : 4 ≤ n) (hm : n ≤ 1024) (hl : L.length < 4294967296) (hw : Waits n L) :
    Calls Try.prog 22 #[.pointer (some ⟨p, 0, none⟩)] w fun e w' =>
      ∃ g cap, e = .returned (.slice (some ⟨g, 0, none⟩) (aft (fun _ => true) L B L.length).length cap) ∧ (aft (fun _ => true) L B L.length).length ≤ cap ∧ w.heap.size ≤ g ∧ OwnBy w' g cap (aft (fun _ => true) L B L.length) ∧ Fr (fun _ => False) w w' := by
  have ht := Aside0.mk (ref_twin h hn h4 hm hl)
  have HN := Aside0.mk hn
  have HW := Aside0.mk hw
  clear h hn hw hl
  go_enter Try.func22, Try.ntmps22
  go_wp2_with (first
    | (go_at_call 47; refine ht.out.mono ?_; rintro e w1 ⟨p2, rfl, S1, N1, hD, hF, hS, hN⟩; have HD := Aside0.mk hD; have HF := Aside0.mk hF; have HS := Aside0.mk hS; clear hD hF hS hN)
    | (go_at_call 48; refine (ref_sync HD.out HN.out h4 hm HW.out).mono ?_; rintro e w2 ⟨rfl, S2, N2, ⟨g2, c2, v2, hD2⟩, hF2, hS2, hN2⟩; have h0 := cell_of_blk hD2.cell (j := 0) rfl; have HD2 := Aside0.mk hD2; have HF2 := Aside0.mk hF2; have HS2 := Aside0.mk hS2; clear hD2 hF2 hS2 hN2))
  go_ret
  refine ⟨g2, c2, rfl, ?_, ?_, HD2.out.own, ?_⟩
  · obtain ⟨_, _, _, h2, _⟩ := HD2.out.own
    exact h2
  · rcases HS2.out _ HD2.out.sb with hq | hq
    · exact HS.out _ hq
    · exact Nat.le_trans HF.out.size hq
  · exact ⟨HF2.out.os.trans HF.out.os, HF2.out.tape.trans HF.out.tape, HF2.out.output.trans HF.out.output, Nat.le_trans HF.out.size HF2.out.size, fun k hk _ => (HF2.out.block k (Nat.lt_of_lt_of_le hk HF.out.size) (fun hq => by have := HS.out _ hq; omega)).trans (HF.out.block k hk (fun hq => hq))⟩
end Go.Proofs.Ytpaiigonagiemaa.PAll
/- The reference's device: Crash. -/
namespace Go.Proofs.Ytpaiigonagiemaa.PAll
open Go.Proofs.Ytpaiigonagiemaa.Help
open Go.RowKit Go.Proofs.YtpaiigonagiemaaW.PrintWords Go.Proofs.YtpaiigonagiemaaW.PrintLast Go.Proofs.YtpaiigonagiemaaW.PrintMore
open Go.Proofs.YtpaiigonagiemaaW.PrintWords.Kd (raw reads_raw)
set_option linter.unusedVariables false
set_option linter.unusedSimpArgs false

/-- What is kept of what waits, of the first k. -/
def keepL (c : Nat → Bool) (L : List (Int × List Int)) : Nat → List (Int × List Int)
  | 0 => []
  | k + 1 => match L[k]? with
    | some x => if c k then keepL c L k ++ [x] else keepL c L k
    | none => keepL c L k
theorem keepL_length (c : Nat → Bool) (L : List (Int × List Int)) (k : Nat) : (keepL c L k).length ≤ k := by
  induction k with
  | zero => exact Nat.le_refl _
  | succ k ih =>
    unfold keepL
    cases L[k]? with
    | none => exact Nat.le_succ_of_le ih
    | some x =>
      simp only
      split
      · rw [List.length_append, List.length_singleton]; omega
      · omega
theorem aft_append (c : Nat → Bool) (L : List (Int × List Int)) (x : Int × List Int) (B : List Int) : ∀ k, k ≤ L.length → aft c (L ++ [x]) B k = aft c L B k
  | 0, _ => rfl
  | k + 1, h => by
    unfold aft
    rw [List.getElem?_append_left (by omega), aft_append c L x B k (by omega)]
theorem keepL_aft (c : Nat → Bool) (L : List (Int × List Int)) (B : List Int) (k : Nat) : aft (fun _ => true) (keepL c L k) B (keepL c L k).length = aft c L B k := by
  induction k with
  | zero => rfl
  | succ k ih =>
    unfold keepL
    show _ = (match L[k]? with | some x => if c k then dput (aft c L B k) x else aft c L B k | none => aft c L B k)
    cases hx : L[k]? with
    | none => exact ih
    | some x =>
      simp only
      cases hc : c k with
      | false => rw [if_neg (by decide), if_neg (by decide)]; exact ih
      | true =>
        rw [if_pos rfl, if_pos rfl, List.length_append, List.length_singleton]
        show (match (keepL c L k ++ [x])[(keepL c L k).length]? with | some x => if true then dput (aft _ _ B _) x else aft _ _ B _ | none => aft _ _ B _) = _
        rw [List.getElem?_append_right (Nat.le_refl _), Nat.sub_self]
        simp only [List.getElem?_cons_zero, if_true]
        rw [aft_append _ _ _ _ _ (Nat.le_refl _), ih]
theorem keepL_mem {c : Nat → Bool} {L : List (Int × List Int)} {k : Nat} {x : Int × List Int} (h : x ∈ keepL c L k) : x ∈ L := by
  induction k with
  | zero => cases h
  | succ k ih =>
    unfold keepL at h
    cases hx : L[k]? with
    | none => rw [hx] at h; exact ih h
    | some y =>
      rw [hx] at h
      simp only at h
      split at h
      · rcases List.mem_append.1 h with h | h
        · exact ih h
        · obtain rfl : x = y := by simpa using h
          exact List.mem_of_getElem? hx
      · exact ih h
theorem DevTo.then {TD TW : Nat} {a b c : World} {S N S' N' : Nat → Prop} {p : Nat} {B : List Int} {L : List (Int × List Int)} (hf : Fr S a b) (t1 : ∀ k, S' k → S k ∨ a.heap.size ≤ k) (t2 : ∀ k, N' k → N k ∨ a.heap.size ≤ k) (h : DevTo TD TW b c S' N' p B L) : DevTo TD TW a c S N p B L := by
  obtain ⟨S2, N2, hd, hf2, u1, u2⟩ := h
  have hs := hf.size
  refine ⟨S2, N2, hd, hf.trans hf2 (fun q hq h => ?_), fun k hk => ?_, fun k hk => ?_⟩
  · rcases t1 q h with h | h
    · exact h
    · omega
  · rcases u1 k hk with h | h
    · exact t1 k h
    · exact .inr (by omega)
  · rcases u2 k hk with h | h
    · exact t2 k h
    · exact .inr (by omega)
end Go.Proofs.Ytpaiigonagiemaa.PAll
/- The program's devices and the reference's, side by side (printed by gen_mix.py out of DSys). -/
namespace Go.Proofs.Ytpaiigonagiemaa.PAll
open Go.Proofs.Ytpaiigonagiemaa.Help
open Go.RowKit Go.Proofs.YtpaiigonagiemaaW.PrintWords Go.Proofs.YtpaiigonagiemaaW.PrintLast Go.Proofs.YtpaiigonagiemaaW.PrintMore
set_option linter.unusedVariables false
set_option linter.unusedSimpArgs false
structure MSt where
  k : Bool
  p : Nat
  n : Nat
  B : List Int
  L : List (Int × List Int)
structure MSt.Ok (d : MSt) : Prop where
  len : d.B.length = d.n * 64
  n4 : 4 ≤ d.n
  nm : d.n ≤ 1024
  wait : Waits d.n d.L
def updM (D : Nat → Option MSt) (i : Nat) (d : MSt) : Nat → Option MSt := fun j => if j = i then some d else D j
theorem updM_same (D : Nat → Option MSt) (i : Nat) (d : MSt) : updM D i d i = some d := if_pos rfl
theorem updM_other (D : Nat → Option MSt) {i j : Nat} (d : MSt) (h : j ≠ i) : updM D i d j = D j := if_neg h
def noMix : Nat → Option MSt := fun _ => none
/-- The types of a device and of one that waits: false: the program's, true: the reference's. -/
def tD : Bool → Nat
  | false => 76
  | true => 49
def tW : Bool → Nat
  | false => 82
  | true => 87
abbrev DevK (k : Bool) := Dev (tD k) (tW k)
/-- The devices D, side by side, and rows of bytes R beside them; nothing that lay in w0 has turned. -/
def Mix (w0 W : World) (D : Nat → Option MSt) (R : List (Nat × Obj)) : Prop :=
  Below w0.heap.size w0 W ∧ ∃ S N : Nat → Nat → Prop, (∀ i d, D i = some d → d.Ok ∧ DevK d.k W (S i) (N i) d.p d.B d.L ∧ (∀ k, S i k → w0.heap.size ≤ k)) ∧
    (∀ i j d e, i ≠ j → D i = some d → D j = some e → ∀ k, S i k → ¬ S j k ∧ ¬ N j k) ∧ ∀ r ∈ R, W.heap[r.1]? = some r.2 ∧ ∀ i d, D i = some d → ¬ S i r.1
theorem Mix.none_ {w0 W : World} (h : Below w0.heap.size w0 W) : Mix w0 W noMix [] := ⟨h, fun _ _ => False, fun _ _ => False, ⟨fun i d h => by simp [noMix] at h, ⟨fun i j d e _ h => by simp [noMix] at h, fun r h => by cases h⟩⟩⟩
theorem Mix.below {w0 W W' : World} {D : Nat → Option MSt} {R : List (Nat × Obj)} (h : Mix w0 W D R) (hf : Below W.heap.size W W') : Mix w0 W' D R := by
  obtain ⟨hb, S, N, hd, ha, hr⟩ := h
  exact ⟨hb.trans (hf.mono hb.size), S, N, fun i d hi => ⟨(hd i d hi).1, (hd i d hi).2.1.below hf, (hd i d hi).2.2⟩, ha, fun r h => ⟨(hf.block _ (blk_lt (hr r h).1)).trans (hr r h).1, (hr r h).2⟩⟩
/-- A call turns one of them. -/
theorem Mix.turn1 {w0 W W' : World} {D : Nat → Option MSt} {R : List (Nat × Obj)} {i : Nat} {d : MSt} {B' : List Int} {L' : List (Int × List Int)} (hb : Below w0.heap.size w0 W) (hi : D i = some d)
    (ht : ∃ S N : Nat → Nat → Prop, (∀ i d, D i = some d → d.Ok ∧ DevK d.k W (S i) (N i) d.p d.B d.L ∧ (∀ k, S i k → w0.heap.size ≤ k)) ∧ (∀ i j d e, i ≠ j → D i = some d → D j = some e → ∀ k, S i k → ¬ S j k ∧ ¬ N j k) ∧ (∀ r ∈ R, W.heap[r.1]? = some r.2 ∧ ∀ i d, D i = some d → ¬ S i r.1) ∧ DevTo (tD d.k) (tW d.k) W W' (S i) (N i) d.p B' L') (hok : (MSt.mk d.k d.p d.n B' L').Ok) : Mix w0 W' (updM D i ⟨d.k, d.p, d.n, B', L'⟩) R := by
  obtain ⟨S, N, hd, ha, hrr, S', N', h1, h2, h3, h4⟩ := ht
  obtain ⟨hok0, hdv, hs0⟩ := hd i d hi
  have hbs := hb.size
  refine ⟨⟨h2.os.trans hb.os, h2.tape.trans hb.tape, h2.output.trans hb.output, Nat.le_trans hb.size h2.size, fun k hk => (h2.block k (by omega) (fun hs => by have := hs0 k hs; omega)).trans (hb.block k hk)⟩,
    fun j => if j = i then S' else S j, fun j => if j = i then N' else N j, fun j e hj => ?_, fun j l e f hjl hj hl k hk => ?_, fun r hr => ?_⟩
  · by_cases hji : j = i
    · subst hji
      rw [updM_same] at hj
      obtain rfl := Option.some.inj hj
      simp only [if_pos]
      exact ⟨hok, h1, fun k hk => by
        rcases h3 k hk with hk | hk
        · exact hs0 k hk
        · omega⟩
    · rw [updM_other _ _ hji] at hj
      simp only [if_neg hji]
      obtain ⟨e1, e2, e3⟩ := hd j e hj
      exact ⟨e1, e2.keep h2 (fun k hk => ha i j d e (Ne.symm hji) hi hj k hk), e3⟩
  · by_cases hji : j = i
    · subst hji
      rw [updM_other _ _ (Ne.symm hjl)] at hl
      simp only [if_pos, if_neg (Ne.symm hjl)] at hk ⊢
      obtain ⟨l1, l2, l3⟩ := (hd l f hl).2.1.slt'
      rcases h3 k hk with hk | hk
      · exact ha j l d f hjl hi hl k hk
      · exact ⟨fun q => by have := l1 k q; omega, fun q => by have := l2 k q; omega⟩
    · rw [updM_other _ _ hji] at hj
      simp only [if_neg hji] at hk
      obtain ⟨j1, j2, j3⟩ := (hd j e hj).2.1.slt'
      have hkW := j1 k hk
      by_cases hli : l = i
      · subst hli
        simp only [if_pos]
        have := ha j l e d hji hj hi k hk
        exact ⟨fun q => (h3 k q).elim this.1 (fun q => by omega), fun q => (h4 k q).elim this.2 (fun q => by omega)⟩
      · rw [updM_other _ _ hli] at hl
        simp only [if_neg hli]
        exact ha j l e f hjl hj hl k hk
  · obtain ⟨r1, r2⟩ := hrr r hr
    refine ⟨(h2.block _ (blk_lt r1) (r2 i d hi)).trans r1, fun j e hj => ?_⟩
    by_cases hji : j = i
    · subst hji
      simp only [if_pos]
      exact fun q => (h3 _ q).elim (r2 j d hi) (fun q => by have := blk_lt r1; omega)
    · rw [updM_other _ _ hji] at hj
      simp only [if_neg hji]
      exact r2 j e hj
/-- One more device. -/
theorem Mix.more {w0 W W' : World} {D : Nat → Option MSt} {R : List (Nat × Obj)} {i : Nat} {d : MSt} {S N : Nat → Nat → Prop} (hb : Below w0.heap.size w0 W) (hd : ∀ i d, D i = some d → d.Ok ∧ DevK d.k W (S i) (N i) d.p d.B d.L ∧ (∀ k, S i k → w0.heap.size ≤ k))
    (ha : ∀ i j d e, i ≠ j → D i = some d → D j = some e → ∀ k, S i k → ¬ S j k ∧ ¬ N j k) (hrr : ∀ r ∈ R, W.heap[r.1]? = some r.2 ∧ ∀ i d, D i = some d → ¬ S i r.1) (hi : D i = none) {N0 : Nat → Prop} (hN0 : ∀ j e, D j = some e → ∀ k, S j k → ¬ N0 k)
    (ht : DevNew (tD d.k) (tW d.k) W W' N0 d.p d.B d.L) (hok : d.Ok) : Mix w0 W' (updM D i d) R := by
  obtain ⟨S', N', h1, h2, h3, h4⟩ := ht
  have hbs := hb.size
  refine ⟨hb.trans (h2.to_below.mono hb.size), fun j => if j = i then S' else S j, fun j => if j = i then N' else N j, fun j e hj => ?_, fun j l e f hjl hj hl k hk => ?_, fun r hr => ?_⟩
  · by_cases hji : j = i
    · subst hji
      rw [updM_same] at hj
      obtain rfl := Option.some.inj hj
      simp only [if_pos]
      exact ⟨hok, h1, fun k hk => by have := h3 k hk; omega⟩
    · rw [updM_other _ _ hji] at hj
      simp only [if_neg hji]
      obtain ⟨e1, e2, e3⟩ := hd j e hj
      exact ⟨e1, e2.below h2.to_below, e3⟩
  · by_cases hji : j = i
    · subst hji
      rw [updM_other _ _ (Ne.symm hjl)] at hl
      simp only [if_pos, if_neg (Ne.symm hjl)] at hk ⊢
      obtain ⟨l1, l2, l3⟩ := (hd l f hl).2.1.slt'
      have := h3 k hk
      exact ⟨fun q => by have := l1 k q; omega, fun q => by have := l2 k q; omega⟩
    · rw [updM_other _ _ hji] at hj
      simp only [if_neg hji] at hk
      obtain ⟨j1, j2, j3⟩ := (hd j e hj).2.1.slt'
      have hkW := j1 k hk
      by_cases hli : l = i
      · subst hli
        simp only [if_pos]
        exact ⟨fun q => by have := h3 k q; omega, fun q => (h4 k q).elim (hN0 j e hj k hk) (fun q => by omega)⟩
      · rw [updM_other _ _ hli] at hl
        simp only [if_neg hli]
        exact ha j l e f hjl hj hl k hk
  · obtain ⟨r1, r2⟩ := hrr r hr
    refine ⟨(h2.to_below.block _ (blk_lt r1)).trans r1, fun j e hj => ?_⟩
    by_cases hji : j = i
    · subst hji
      simp only [if_pos]
      exact fun q => by have := blk_lt r1; have := h3 _ q; omega
    · rw [updM_other _ _ hji] at hj
      simp only [if_neg hji]
      exact r2 j e hj
/-- A row that is new is kept. -/
theorem Mix.row {w0 W W' : World} {D : Nat → Option MSt} {R : List (Nat × Obj)} (h : Mix w0 W D R) (hf : Below W.heap.size W W') {g : Nat} {o : Obj} (hO : W'.heap[g]? = some o) (hg : W.heap.size ≤ g) : Mix w0 W' D ((g, o) :: R) := by
  obtain ⟨hb, S, N, hd, ha, hrr⟩ := h
  refine ⟨hb.trans (hf.mono hb.size), S, N, fun i d hi => ⟨(hd i d hi).1, (hd i d hi).2.1.below hf, (hd i d hi).2.2⟩, ha, fun r h => ?_⟩
  rcases List.mem_cons.1 h with rfl | h
  · exact ⟨hO, fun i d hi q => by have := (hd i d hi).2.1.slt'.1 _ q; omega⟩
  · exact ⟨(hf.block _ (blk_lt (hrr r h).1)).trans (hrr r h).1, (hrr r h).2⟩
theorem Mix.kept {w0 W : World} {D : Nat → Option MSt} {R : List (Nat × Obj)} (h : Mix w0 W D R) {g : Nat} {o : Obj} (hr : (g, o) ∈ R) : W.heap[g]? = some o := by
  obtain ⟨hb, S, N, hd, ha, hrr⟩ := h
  exact (hrr _ hr).1
theorem Mix.blocks {w0 W : World} {D : Nat → Option MSt} {R : List (Nat × Obj)} (h : Mix w0 W D R) {i p n : Nat} {B : List Int} {L : List (Int × List Int)} (hi : D i = some ⟨false, p, n, B, L⟩) :
    Calls Try.prog 40 #[.pointer (some ⟨p, 0, none⟩)] W fun e w' => e = .returned (.int .i64 n) ∧ W = w' := by
  obtain ⟨hb, S, N, hd, ha, hrr⟩ := h
  obtain ⟨ok, dv, hs⟩ := hd i _ hi
  exact dev_blocks dv ok.len ok.nm
theorem Mix.rblocks {w0 W : World} {D : Nat → Option MSt} {R : List (Nat × Obj)} (h : Mix w0 W D R) {i p n : Nat} {B : List Int} {L : List (Int × List Int)} (hi : D i = some ⟨true, p, n, B, L⟩) :
    Calls Try.prog 43 #[.pointer (some ⟨p, 0, none⟩)] W fun e w' => e = .returned (.int .i64 n) ∧ W = w' := by
  obtain ⟨hb, S, N, hd, ha, hrr⟩ := h
  obtain ⟨ok, dv, hs⟩ := hd i _ hi
  exact ref_blocks dv ok.len ok.nm
theorem Mix.waits {w0 W : World} {D : Nat → Option MSt} {R : List (Nat × Obj)} (h : Mix w0 W D R) {i p n : Nat} {B : List Int} {L : List (Int × List Int)} (hi : D i = some ⟨false, p, n, B, L⟩) :
    Calls Try.prog 23 #[.pointer (some ⟨p, 0, none⟩)] W fun e w' => e = .returned (.int .i64 L.length) ∧ W = w' := by
  obtain ⟨hb, S, N, hd, ha, hrr⟩ := h
  obtain ⟨ok, dv, hs⟩ := hd i _ hi
  exact dev_waits dv
theorem Mix.rwaits {w0 W : World} {D : Nat → Option MSt} {R : List (Nat × Obj)} (h : Mix w0 W D R) {i p n : Nat} {B : List Int} {L : List (Int × List Int)} (hi : D i = some ⟨true, p, n, B, L⟩) : ∃ A c, W.cell? ⟨p, 1, none⟩ = some (.slice A L.length c) ∧ L.length ≤ 9223372036854775807 := by
  obtain ⟨hb, S, N, hd, ha, hrr⟩ := h
  obtain ⟨ok, dv, hs⟩ := hd i _ hi
  obtain ⟨gb, cb, vl, h⟩ := dv
  obtain ⟨A, c, rfl, _, hl⟩ := h.lenL
  exact ⟨A, c, cell_of_blk h.cell (j := 1) rfl, hl⟩
theorem Mix.read {w0 W : World} {D : Nat → Option MSt} {R : List (Nat × Obj)} (h : Mix w0 W D R) {i p n : Nat} {B : List Int} {L : List (Int × List Int)} (hi : D i = some ⟨false, p, n, B, L⟩) (hl : L.length < 4294967296) {j : Int} (h0 : 0 ≤ j) (hj : j < n) :
    Calls Try.prog 42 #[.pointer (some ⟨p, 0, none⟩), .int .i64 j] W fun e w' => ∃ g cap, e = .returned (.tuple #[.slice (some ⟨g, 0, none⟩) 64 cap, .int .i64 0]) ∧ W.heap.size ≤ g ∧ 64 ≤ cap ∧ OwnBy w' g cap (rblk B L j) ∧ Below W.heap.size W w' := by
  obtain ⟨hb, S, N, hd, ha, hrr⟩ := h
  obtain ⟨ok, dv, hs⟩ := hd i _ hi
  exact dev_read dv ok.len ok.nm hl (fun x hx => (ok.wait x hx).2.2) h0 hj
theorem Mix.rread {w0 W : World} {D : Nat → Option MSt} {R : List (Nat × Obj)} (h : Mix w0 W D R) {i p n : Nat} {B : List Int} {L : List (Int × List Int)} (hi : D i = some ⟨true, p, n, B, L⟩) (hl : L.length < 4294967296) {j : Int} (h0 : 0 ≤ j) (hj : j < n) :
    Calls Try.prog 49 #[.pointer (some ⟨p, 0, none⟩), .int .i64 j] W fun e w' => ∃ g cap, e = .returned (.tuple #[.slice (some ⟨g, 0, none⟩) 64 cap, .int .i64 0]) ∧ W.heap.size ≤ g ∧ 64 ≤ cap ∧ OwnBy w' g cap (rblk B L j) ∧ Below W.heap.size W w' := by
  obtain ⟨hb, S, N, hd, ha, hrr⟩ := h
  obtain ⟨ok, dv, hs⟩ := hd i _ hi
  exact ref_read dv ok.len ok.nm hl (fun x hx => (ok.wait x hx).2.2) h0 hj
theorem Mix.read_bad {w0 W : World} {D : Nat → Option MSt} {R : List (Nat × Obj)} (h : Mix w0 W D R) {i p n : Nat} {B : List Int} {L : List (Int × List Int)} (hi : D i = some ⟨false, p, n, B, L⟩) {j : Int} (hj : ¬ (0 ≤ j ∧ j < n)) :
    Calls Try.prog 42 #[.pointer (some ⟨p, 0, none⟩), .int .i64 j] W fun e w' => e = .returned (.tuple #[.slice none 0 0, .int .i64 1]) ∧ Below W.heap.size W w' := by
  obtain ⟨hb, S, N, hd, ha, hrr⟩ := h
  obtain ⟨ok, dv, hs⟩ := hd i _ hi
  exact dev_read_bad dv ok.len ok.nm hj
theorem Mix.rread_bad {w0 W : World} {D : Nat → Option MSt} {R : List (Nat × Obj)} (h : Mix w0 W D R) {i p n : Nat} {B : List Int} {L : List (Int × List Int)} (hi : D i = some ⟨true, p, n, B, L⟩) {j : Int} (hj : ¬ (0 ≤ j ∧ j < n)) :
    Calls Try.prog 49 #[.pointer (some ⟨p, 0, none⟩), .int .i64 j] W fun e w' => e = .returned (.tuple #[.slice none 0 0, .int .i64 1]) ∧ Below W.heap.size W w' := by
  obtain ⟨hb, S, N, hd, ha, hrr⟩ := h
  obtain ⟨ok, dv, hs⟩ := hd i _ hi
  refine (ref_read_bad dv ok.len ok.nm hj).mono ?_
  rintro e w' ⟨rfl, rfl⟩
  exact ⟨rfl, Below.refl _ _⟩
theorem Mix.write {w0 W : World} {D : Nat → Option MSt} {R : List (Nat × Obj)} (h : Mix w0 W D R) {i p n : Nat} {B : List Int} {L : List (Int × List Int)} (hi : D i = some ⟨false, p, n, B, L⟩) (hl : L.length < 4294967296) {j : Int} (h0 : 0 ≤ j) (hj : j < n) {A : Option Addr} {c : Nat} {bs : List Int} (hr : Kd.C (Kd.int .u8) W A bs.length bs) (hc : bs.length ≤ c) (h64 : bs.length = 64) :
    Calls Try.prog 41 #[.pointer (some ⟨p, 0, none⟩), .int .i64 j, .slice A bs.length c] W fun e w' => e = .returned (.int .i64 0) ∧ Mix w0 w' (updM D i ⟨false, p, n, B, L ++ [(j, bs)]⟩) R := by
  obtain ⟨hb, S, N, hd, ha, hrr⟩ := h
  obtain ⟨ok, dv, hs⟩ := hd i _ hi
  have ok' : (MSt.mk false p n B (L ++ [(j, bs)])).Ok := ⟨ok.len, ok.n4, ok.nm, fun x hx => by
    rcases List.mem_append.1 hx with hx | hx
    · exact ok.wait x hx
    · obtain rfl : x = (j, bs) := by simpa using hx
      exact ⟨h0, hj, h64⟩⟩
  refine (dev_write dv ok.len ok.nm hl h0 hj hr hc h64).mono ?_
  rintro e w' ⟨rfl, ht⟩
  exact ⟨rfl, Mix.turn1 hb hi ⟨S, N, hd, ha, hrr, ht⟩ ok'⟩
theorem Mix.rwrite {w0 W : World} {D : Nat → Option MSt} {R : List (Nat × Obj)} (h : Mix w0 W D R) {i p n : Nat} {B : List Int} {L : List (Int × List Int)} (hi : D i = some ⟨true, p, n, B, L⟩) (hl : L.length < 4294967296) {j : Int} (h0 : 0 ≤ j) (hj : j < n) {A : Option Addr} {c : Nat} {bs : List Int} (hr : Kd.C (Kd.int .u8) W A bs.length bs) (hc : bs.length ≤ c) (h64 : bs.length = 64) :
    Calls Try.prog 44 #[.pointer (some ⟨p, 0, none⟩), .int .i64 j, .slice A bs.length c] W fun e w' => e = .returned (.int .i64 0) ∧ Mix w0 w' (updM D i ⟨true, p, n, B, L ++ [(j, bs)]⟩) R := by
  obtain ⟨hb, S, N, hd, ha, hrr⟩ := h
  obtain ⟨ok, dv, hs⟩ := hd i _ hi
  have ok' : (MSt.mk true p n B (L ++ [(j, bs)])).Ok := ⟨ok.len, ok.n4, ok.nm, fun x hx => by
    rcases List.mem_append.1 hx with hx | hx
    · exact ok.wait x hx
    · obtain rfl : x = (j, bs) := by simpa using hx
      exact ⟨h0, hj, h64⟩⟩
  refine (ref_write dv ok.len ok.nm hl h0 hj hr hc h64).mono ?_
  rintro e w' ⟨rfl, ht⟩
  exact ⟨rfl, Mix.turn1 hb hi ⟨S, N, hd, ha, hrr, ht⟩ ok'⟩
theorem Mix.write_bad {w0 W : World} {D : Nat → Option MSt} {R : List (Nat × Obj)} (h : Mix w0 W D R) {i p n : Nat} {B : List Int} {L : List (Int × List Int)} (hi : D i = some ⟨false, p, n, B, L⟩) {j : Int} {A : Option Addr} {l c : Nat} (hl : l ≤ 9223372036854775807) (hbb : ¬ (0 ≤ j ∧ j < n) ∨ l ≠ 64) :
    Calls Try.prog 41 #[.pointer (some ⟨p, 0, none⟩), .int .i64 j, .slice A l c] W fun e w' => e = .returned (.int .i64 1) ∧ W = w' := by
  obtain ⟨hb, S, N, hd, ha, hrr⟩ := h
  obtain ⟨ok, dv, hs⟩ := hd i _ hi
  exact dev_write_bad dv ok.len ok.nm hl hbb
theorem Mix.rwrite_bad {w0 W : World} {D : Nat → Option MSt} {R : List (Nat × Obj)} (h : Mix w0 W D R) {i p n : Nat} {B : List Int} {L : List (Int × List Int)} (hi : D i = some ⟨true, p, n, B, L⟩) {j : Int} {A : Option Addr} {l c : Nat} (hl : l ≤ 9223372036854775807) (hbb : ¬ (0 ≤ j ∧ j < n) ∨ l ≠ 64) :
    Calls Try.prog 44 #[.pointer (some ⟨p, 0, none⟩), .int .i64 j, .slice A l c] W fun e w' => e = .returned (.int .i64 1) ∧ W = w' := by
  obtain ⟨hb, S, N, hd, ha, hrr⟩ := h
  obtain ⟨ok, dv, hs⟩ := hd i _ hi
  exact ref_write_bad dv ok.len ok.nm hl hbb
theorem Mix.sync {w0 W : World} {D : Nat → Option MSt} {R : List (Nat × Obj)} (h : Mix w0 W D R) {i p n : Nat} {B : List Int} {L : List (Int × List Int)} (hi : D i = some ⟨false, p, n, B, L⟩) :
    Calls Try.prog 46 #[.pointer (some ⟨p, 0, none⟩)] W fun e w' => e = .returned (.tuple #[]) ∧ Mix w0 w' (updM D i ⟨false, p, n, aft (fun _ => true) L B L.length, []⟩) R := by
  obtain ⟨hb, S, N, hd, ha, hrr⟩ := h
  obtain ⟨ok, dv, hs⟩ := hd i _ hi
  refine (dev_sync dv ok.len ok.nm ok.wait).mono ?_
  rintro e w' ⟨rfl, ht⟩
  exact ⟨rfl, Mix.turn1 hb hi ⟨S, N, hd, ha, hrr, ht⟩ ⟨aft_length ok.len ok.wait _, ok.n4, ok.nm, fun x hx => by cases hx⟩⟩
theorem Mix.rsync {w0 W : World} {D : Nat → Option MSt} {R : List (Nat × Obj)} (h : Mix w0 W D R) {i p n : Nat} {B : List Int} {L : List (Int × List Int)} (hi : D i = some ⟨true, p, n, B, L⟩) :
    Calls Try.prog 48 #[.pointer (some ⟨p, 0, none⟩)] W fun e w' => e = .returned (.tuple #[]) ∧ Mix w0 w' (updM D i ⟨true, p, n, aft (fun _ => true) L B L.length, []⟩) R := by
  obtain ⟨hb, S, N, hd, ha, hrr⟩ := h
  obtain ⟨ok, dv, hs⟩ := hd i _ hi
  refine (ref_sync dv ok.len ok.n4 ok.nm ok.wait).mono ?_
  rintro e w' ⟨rfl, ht⟩
  exact ⟨rfl, Mix.turn1 hb hi ⟨S, N, hd, ha, hrr, ht⟩ ⟨aft_length ok.len ok.wait _, ok.n4, ok.nm, fun x hx => by cases hx⟩⟩
theorem Mix.twin {w0 W : World} {D : Nat → Option MSt} {R : List (Nat × Obj)} (h : Mix w0 W D R) {i p n : Nat} {B : List Int} {L : List (Int × List Int)} (hi : D i = some ⟨false, p, n, B, L⟩) (hl : L.length < 4294967296) (j : Nat) (hj : D j = none) :
    Calls Try.prog 45 #[.pointer (some ⟨p, 0, none⟩)] W fun e w' => ∃ p2, e = .returned (.pointer (some ⟨p2, 0, none⟩)) ∧ Mix w0 w' (updM D j ⟨false, p2, n, B, L⟩) R := by
  obtain ⟨hb, S, N, hd, ha, hrr⟩ := h
  obtain ⟨ok, dv, hs⟩ := hd i _ hi
  refine (dev_twin dv ok.len ok.n4 ok.nm hl).mono ?_
  rintro e w' ⟨p2, rfl, hN⟩
  refine ⟨p2, rfl, Mix.more (d := ⟨false, p2, n, B, L⟩) hb hd ha hrr hj (fun l f hl k hk => ?_) hN ⟨ok.len, ok.n4, ok.nm, ok.wait⟩⟩
  by_cases e : l = i
  · subst e
    rw [hi] at hl
    obtain rfl := Option.some.inj hl
    exact dv.slt'.2.2 k hk
  · exact (ha l i f _ e hl hi k hk).2
theorem Mix.rtwin {w0 W : World} {D : Nat → Option MSt} {R : List (Nat × Obj)} (h : Mix w0 W D R) {i p n : Nat} {B : List Int} {L : List (Int × List Int)} (hi : D i = some ⟨true, p, n, B, L⟩) (hl : L.length < 4294967296) (j : Nat) (hj : D j = none) :
    Calls Try.prog 47 #[.pointer (some ⟨p, 0, none⟩)] W fun e w' => ∃ p2, e = .returned (.pointer (some ⟨p2, 0, none⟩)) ∧ Mix w0 w' (updM D j ⟨true, p2, n, B, L⟩) R := by
  obtain ⟨hb, S, N, hd, ha, hrr⟩ := h
  obtain ⟨ok, dv, hs⟩ := hd i _ hi
  refine (ref_twin dv ok.len ok.n4 ok.nm hl).mono ?_
  rintro e w' ⟨p2, rfl, hN⟩
  refine ⟨p2, rfl, Mix.more (d := ⟨true, p2, n, B, L⟩) hb hd ha hrr hj (fun l f hl k hk => ?_) hN ⟨ok.len, ok.n4, ok.nm, ok.wait⟩⟩
  by_cases e : l = i
  · subst e
    rw [hi] at hl
    obtain rfl := Option.some.inj hl
    exact dv.slt'.2.2 k hk
  · exact (ha l i f _ e hl hi k hk).2
theorem Mix.bytes {w0 W : World} {D : Nat → Option MSt} {R : List (Nat × Obj)} (h : Mix w0 W D R) {i p n : Nat} {B : List Int} {L : List (Int × List Int)} (hi : D i = some ⟨false, p, n, B, L⟩) (hl : L.length < 4294967296) :
    Calls Try.prog 21 #[.pointer (some ⟨p, 0, none⟩)] W fun e w' => ∃ g cap, e = .returned (.slice (some ⟨g, 0, none⟩) (aft (fun _ => true) L B L.length).length cap) ∧ (aft (fun _ => true) L B L.length).length ≤ cap ∧ W.heap.size ≤ g ∧ OwnBy w' g cap (aft (fun _ => true) L B L.length) ∧ Below W.heap.size W w' := by
  obtain ⟨hb, S, N, hd, ha, hrr⟩ := h
  obtain ⟨ok, dv, hs⟩ := hd i _ hi
  refine (dev_bytes dv ok.len ok.n4 ok.nm hl ok.wait).mono ?_
  rintro e w' ⟨g, cap, h1, h2, h3, h4, h5⟩
  exact ⟨g, cap, h1, h2, h3, h4, h5.to_below⟩
theorem Mix.rbytes {w0 W : World} {D : Nat → Option MSt} {R : List (Nat × Obj)} (h : Mix w0 W D R) {i p n : Nat} {B : List Int} {L : List (Int × List Int)} (hi : D i = some ⟨true, p, n, B, L⟩) (hl : L.length < 4294967296) :
    Calls Try.prog 22 #[.pointer (some ⟨p, 0, none⟩)] W fun e w' => ∃ g cap, e = .returned (.slice (some ⟨g, 0, none⟩) (aft (fun _ => true) L B L.length).length cap) ∧ (aft (fun _ => true) L B L.length).length ≤ cap ∧ W.heap.size ≤ g ∧ OwnBy w' g cap (aft (fun _ => true) L B L.length) ∧ Below W.heap.size W w' := by
  obtain ⟨hb, S, N, hd, ha, hrr⟩ := h
  obtain ⟨ok, dv, hs⟩ := hd i _ hi
  refine (ref_bytes dv ok.len ok.n4 ok.nm hl ok.wait).mono ?_
  rintro e w' ⟨g, cap, h1, h2, h3, h4, h5⟩
  exact ⟨g, cap, h1, h2, h3, h4, h5.to_below⟩
theorem Mix.new {w0 W : World} {D : Nat → Option MSt} {R : List (Nat × Obj)} (h : Mix w0 W D R) (i : Nat) (hi : D i = none) {n : Nat} (h4 : 4 ≤ n) (hm : n ≤ 1024) :
    Calls Try.prog 16 #[.int .i64 n] W fun e w' => ∃ p, e = .returned (.tuple #[.pointer (some ⟨p, 0, none⟩), .int .i64 0]) ∧ Mix w0 w' (updM D i ⟨false, p, n, List.replicate (n * 64) 0, []⟩) R := by
  obtain ⟨hb, S, N, hd, ha, hrr⟩ := h
  refine (dev_new h4 hm).mono ?_
  rintro e w' ⟨p, rfl, hN⟩
  exact ⟨p, rfl, Mix.more (d := ⟨false, p, n, _, _⟩) hb hd ha hrr hi (fun _ _ _ _ _ h => h) hN ⟨List.length_replicate, h4, hm, fun x hx => by cases hx⟩⟩
theorem Mix.rnew {w0 W : World} {D : Nat → Option MSt} {R : List (Nat × Obj)} (h : Mix w0 W D R) (i : Nat) (hi : D i = none) {n : Nat} (h4 : 4 ≤ n) (hm : n ≤ 1024) :
    Calls Try.prog 19 #[.int .i64 n] W fun e w' => ∃ p, e = .returned (.tuple #[.pointer (some ⟨p, 0, none⟩), .int .i64 0]) ∧ Mix w0 w' (updM D i ⟨true, p, n, List.replicate (n * 64) 0, []⟩) R := by
  obtain ⟨hb, S, N, hd, ha, hrr⟩ := h
  refine (ref_new h4 hm).mono ?_
  rintro e w' ⟨p, rfl, hN⟩
  exact ⟨p, rfl, Mix.more (d := ⟨true, p, n, _, _⟩) hb hd ha hrr hi (fun _ _ _ _ _ h => h) hN ⟨List.length_replicate, h4, hm, fun x hx => by cases hx⟩⟩
theorem Mix.of {w0 W : World} {D : Nat → Option MSt} {R : List (Nat × Obj)} (h : Mix w0 W D R) (i : Nat) (hi : D i = none) {A : Option Addr} {c n : Nat} {bs : List Int} (hr : Kd.C (Kd.int .u8) W A bs.length bs) (hc : bs.length ≤ c) (hn : bs.length = n * 64) (h4 : 4 ≤ n) (hm : n ≤ 1024) :
    Calls Try.prog 39 #[.slice A bs.length c] W fun e w' => ∃ p, e = .returned (.tuple #[.pointer (some ⟨p, 0, none⟩), .int .i64 0]) ∧ Mix w0 w' (updM D i ⟨false, p, n, bs, []⟩) R := by
  obtain ⟨hb, S, N, hd, ha, hrr⟩ := h
  refine (dev_of hr hc hn h4 hm).mono ?_
  rintro e w' ⟨p, rfl, hN⟩
  exact ⟨p, rfl, Mix.more (d := ⟨false, p, n, _, _⟩) hb hd ha hrr hi (fun _ _ _ _ _ h => h) hN ⟨hn, h4, hm, fun x hx => by cases hx⟩⟩
theorem Mix.under {w0 W : World} {D : Nat → Option MSt} {R : List (Nat × Obj)} (h : Mix w0 W D R) : Below w0.heap.size w0 W := h.1
theorem Mix.ok {w0 W : World} {D : Nat → Option MSt} {R : List (Nat × Obj)} (h : Mix w0 W D R) {i : Nat} {d : MSt} (hi : D i = some d) : d.Ok := by
  obtain ⟨hb, S, N, hd, _⟩ := h
  exact (hd i d hi).1
theorem Mix.pack {w0 W : World} {D : Nat → Option MSt} {R : List (Nat × Obj)} (h : Mix w0 W D R) : ∃ Dx Rx, Dx = D ∧ Rx = R ∧ Mix w0 W Dx Rx := ⟨D, R, rfl, rfl, h⟩
theorem updM_self {D : Nat → Option MSt} {i : Nat} {d : MSt} (h : D i = some d) : updM D i d = D := by
  funext j
  unfold updM
  split
  · rename_i e
    rw [e]; exact h.symm
  · rfl
/-- Two of them, and no other. -/
theorem Mix.two {w0 W : World} {D : Nat → Option MSt} {R : List (Nat × Obj)} (h : Mix w0 W D R) {i j : Nat} {a b : MSt} (hij : i ≠ j) (hi : D i = some a) (hj : D j = some b) : Mix w0 W (updM (updM noMix 0 a) 1 b) R := by
  obtain ⟨hb, S, N, hd, ha, hrr⟩ := h
  have key : ∀ q d, updM (updM noMix 0 a) 1 b q = some d → (q = 0 ∧ d = a) ∨ (q = 1 ∧ d = b) := by
    intro q d hq
    unfold updM at hq
    by_cases h1 : q = 1
    · rw [if_pos h1] at hq
      exact .inr ⟨h1, (Option.some.inj hq).symm⟩
    · rw [if_neg h1] at hq
      by_cases h0 : q = 0
      · rw [if_pos h0] at hq
        exact .inl ⟨h0, (Option.some.inj hq).symm⟩
      · rw [if_neg h0] at hq
        simp [noMix] at hq
  refine ⟨hb, fun q => if q = 0 then S i else S j, fun q => if q = 0 then N i else N j, fun q d hq => ?_, fun q r d e hqr hq hr k hk => ?_, fun r hr => ⟨(hrr r hr).1, fun q d hq => ?_⟩⟩
  · rcases key q d hq with ⟨rfl, rfl⟩ | ⟨rfl, rfl⟩
    · exact hd i _ hi
    · exact hd j _ hj
  · rcases key q d hq with ⟨rfl, rfl⟩ | ⟨rfl, rfl⟩ <;> rcases key r e hr with ⟨rfl, rfl⟩ | ⟨rfl, rfl⟩
    · exact absurd rfl hqr
    · exact ha i j _ _ hij hi hj k hk
    · exact ha j i _ _ (Ne.symm hij) hj hi k hk
    · exact absurd rfl hqr
  · rcases key q d hq with ⟨rfl, rfl⟩ | ⟨rfl, rfl⟩
    · exact (hrr r hr).2 i _ hi
    · exact (hrr r hr).2 j _ hj
end Go.Proofs.Ytpaiigonagiemaa.PAll
/- A read of either device, in bounds or not. -/
namespace Go.Proofs.Ytpaiigonagiemaa.PAll
open Go.Proofs.Ytpaiigonagiemaa.Help
open Go.RowKit Go.Proofs.YtpaiigonagiemaaW.PrintWords Go.Proofs.YtpaiigonagiemaaW.PrintLast Go.Proofs.YtpaiigonagiemaaW.PrintMore
set_option linter.unusedVariables false
set_option linter.unusedSimpArgs false
/-- A row that lay ahead, as a string, in any later world. -/
theorem C_later {w w' : World} {A : Option Addr} {l : List Int} (h : Kd.C (Kd.int .u8) w A l.length l) (hB : Below w.heap.size w w') : Kd.C (Kd.int .u8) w' A l.length l := by
  by_cases h0 : 0 < l.length
  · exact C_same h (fun a ha => hB.block _ (C_lt h a ha h0))
  · exact ⟨h.1, h.2.1, fun hn => absurd hn (by omega)⟩
theorem C_str {w : World} {A : Option Addr} {c : Nat} {l : List Int} (h : Kd.C (Kd.int .u8) w A l.length l) : (convert 22 9 (.slice A l.length c)).run Try.prog w = .ok (.string (strOfNums l)) w :=
  Kd.C_string Try.underlying22 Try.underlying5 Try.underlying9 h
/-- What a read answers, and what it tells. -/
def rerr (n : Nat) (j : Int) : Int := if 0 ≤ j ∧ j < n then 0 else 1
def rstr (n : Nat) (B : List Int) (L : List (Int × List Int)) (j : Int) : ByteArray := strOfNums (if 0 ≤ j ∧ j < n then rblk B L j else [])
theorem nil_str (w : World) : (convert 22 9 (.slice none 0 0)).run Try.prog w = .ok (.string (strOfNums [])) w :=
  C_str (A := none) (c := 0) (l := []) ⟨rfl, by decide, fun hn => absurd hn (by decide)⟩
theorem rblk_length {n : Nat} {B : List Int} {L : List (Int × List Int)} (hB : B.length = n * 64) (hw : ∀ x ∈ L, x.2.length = 64) {j : Int} (h0 : 0 ≤ j) (hj : j < n) : (rblk B L j).length = 64 := by
  have key : ∀ k b, lastAt L j k = some b → b.length = 64 := by
    intro k
    induction k with
    | zero => intro b h; cases h
    | succ k ih =>
      intro b h
      unfold lastAt at h
      cases hx : L[k]? with
      | none => rw [hx] at h; exact ih b h
      | some x =>
        rw [hx] at h
        simp only at h
        split at h
        · obtain rfl := Option.some.inj h
          exact hw x (List.mem_of_getElem? hx)
        · exact ih b h
  unfold rblk
  cases h : lastAt L j L.length with
  | some b => exact key _ b h
  | none =>
    show (List.take 64 (List.drop (j.toNat * 64) B)).length = 64
    rw [List.length_take, List.length_drop]; omega
theorem Mix.readX {w0 W : World} {D : Nat → Option MSt} {R : List (Nat × Obj)} (h : Mix w0 W D R) {i p n : Nat} {B : List Int} {L : List (Int × List Int)} (hi : D i = some ⟨false, p, n, B, L⟩) (hl : L.length < 4294967296) (j : Int) :
    Calls Try.prog 42 #[.pointer (some ⟨p, 0, none⟩), .int .i64 j] W fun e w' => ∃ v, e = .returned (.tuple #[v, .int .i64 (rerr n j)]) ∧ Below W.heap.size W w' ∧
      ∀ W', Below w'.heap.size w' W' → (convert 22 9 v).run Try.prog W' = .ok (.string (rstr n B L j)) W' := by
  have ok := h.ok hi
  by_cases hj : 0 ≤ j ∧ j < n
  · refine (h.read hi hl hj.1 hj.2).mono ?_
    rintro e w' ⟨g, cap, rfl, hg, hc, hO, hB⟩
    refine ⟨_, by unfold rerr; rw [if_pos hj], hB, fun W' hW => ?_⟩
    have := (hO.same (hW.block _ hO.lt)).str
    rw [rblk_length ok.len (fun x hx => (ok.wait x hx).2.2) hj.1 hj.2] at this
    unfold rstr
    rw [if_pos hj]
    exact this
  · refine (h.read_bad hi hj).mono ?_
    rintro e w' ⟨rfl, hB⟩
    refine ⟨_, by unfold rerr; rw [if_neg hj], hB, fun W' hW => ?_⟩
    unfold rstr
    rw [if_neg hj]
    exact nil_str W'
theorem Mix.rreadX {w0 W : World} {D : Nat → Option MSt} {R : List (Nat × Obj)} (h : Mix w0 W D R) {i p n : Nat} {B : List Int} {L : List (Int × List Int)} (hi : D i = some ⟨true, p, n, B, L⟩) (hl : L.length < 4294967296) (j : Int) :
    Calls Try.prog 49 #[.pointer (some ⟨p, 0, none⟩), .int .i64 j] W fun e w' => ∃ v, e = .returned (.tuple #[v, .int .i64 (rerr n j)]) ∧ Below W.heap.size W w' ∧
      ∀ W', Below w'.heap.size w' W' → (convert 22 9 v).run Try.prog W' = .ok (.string (rstr n B L j)) W' := by
  have ok := h.ok hi
  by_cases hj : 0 ≤ j ∧ j < n
  · refine (h.rread hi hl hj.1 hj.2).mono ?_
    rintro e w' ⟨g, cap, rfl, hg, hc, hO, hB⟩
    refine ⟨_, by unfold rerr; rw [if_pos hj], hB, fun W' hW => ?_⟩
    have := (hO.same (hW.block _ hO.lt)).str
    rw [rblk_length ok.len (fun x hx => (ok.wait x hx).2.2) hj.1 hj.2] at this
    unfold rstr
    rw [if_pos hj]
    exact this
  · refine (h.rread_bad hi hj).mono ?_
    rintro e w' ⟨rfl, hB⟩
    refine ⟨_, by unfold rerr; rw [if_neg hj], hB, fun W' hW => ?_⟩
    unfold rstr
    rw [if_neg hj]
    exact nil_str W'
theorem Mix.rwaits' {w0 W : World} {D : Nat → Option MSt} {R : List (Nat × Obj)} (h : Mix w0 W D R) {i p n : Nat} {B : List Int} {L : List (Int × List Int)} (hi : D i = some ⟨true, p, n, B, L⟩) :
    ∃ A c, L.length ≤ 9223372036854775807 ∧ ∀ W', Below W.heap.size W W' → W'.cell? ⟨p, 1, none⟩ = some (.slice A L.length c) := by
  obtain ⟨hb, S, N, hd, ha, hrr⟩ := h
  obtain ⟨ok, dv, hs⟩ := hd i _ hi
  obtain ⟨gb, cb, vl, h⟩ := dv
  obtain ⟨A, c, rfl, _, hl⟩ := h.lenL
  exact ⟨A, c, hl, fun W' hB => (hB.cell (p := ⟨p, 1, none⟩) (h.slt p h.sp)).trans (cell_of_blk h.cell (j := 1) rfl)⟩
end Go.Proofs.Ytpaiigonagiemaa.PAll
