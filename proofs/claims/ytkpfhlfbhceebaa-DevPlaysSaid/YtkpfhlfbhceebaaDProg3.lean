/- The program's devices: Crash. -/
import Derived.Test.YtkpfhlfbhceebaaDProg2
namespace Go.Proofs.Ytkpfhlfbhceebaa.PAll
open Go.Proofs.Ytkpfhlfbhceebaa.Help
open Go.RowKit Go.Proofs.YtkpfhlfbhceebaaW.PrintWords Go.Proofs.YtkpfhlfbhceebaaW.PrintLast Go.Proofs.YtkpfhlfbhceebaaW.PrintMore
set_option linter.unusedVariables false
set_option linter.unusedSimpArgs false
theorem at_flag {w : World} {A : Option Addr} {ks : List Bool} (h : Kd.C Kd.bool w A ks.length ks) {j : Nat} (hj : j < ks.length) : ∃ ad, A = some ad ∧ w.cell? (ad.add j) = some (.bool (ks.getD j false)) := by
  obtain ⟨ad, e, hc⟩ := h.2.2 (by omega)
  obtain ⟨c, hl, hp2, hcell⟩ := hc j _ (List.getElem?_eq_getElem hj)
  have hp2 : c = [Value.bool (ks[j]'hj)] := hp2
  subst hp2
  have := hcell 0 _ rfl
  refine ⟨ad, e, ?_⟩
  rw [List.getD_eq_getElem?_getD, List.getElem?_eq_getElem hj]
  simpa [show Kd.bool.sz = 1 from rfl] using this
theorem C_same_bool {w w' : World} {A : Option Addr} {n : Nat} {xs : List Bool} (h : Kd.C Kd.bool w A n xs) (hs : ∀ a, A = some a → w'.heap[a.block]? = w.heap[a.block]?) : Kd.C Kd.bool w' A n xs := by
  refine ⟨h.1, h.2.1, fun hn => ?_⟩
  obtain ⟨ad, e, hc⟩ := h.2.2 hn
  refine ⟨ad, e, fun j p hj => ?_⟩
  obtain ⟨c, hl, hp, hcell⟩ := hc j p hj
  refine ⟨c, hl, hp, fun i u hu => ?_⟩
  rw [World.cell?_of_block (w := w) (by rw [add_block]; exact hs ad e)]
  exact hcell i u hu
set_option maxHeartbeats 8000000 in
theorem dev_crash {w : World} {S N : Nat → Prop} {p : Nat} {B : List Int} {L : List (Int × List Int)} (h : Dev 62 65 w S N p B L) {n : Nat} (hn : B.length = n * 64) (hm : n ≤ 1024) (hw : Waits n L)
    {A : Option Addr} {c : Nat} {ks : List Bool} (hr : Kd.C Kd.bool w A ks.length ks) (hA : ∀ a, A = some a → 0 < ks.length → ¬ S a.block ∧ a.block < w.heap.size) :
    Calls Try.prog 15 #[.pointer (some ⟨p, 0, none⟩), .slice A ks.length c] w fun e w' =>
      e = .returned (.tuple #[]) ∧ DevTo 62 65 w w' S N p (aft (fun k => ks.getD k false) L B L.length) [] := by
  obtain ⟨gb, cb, vl, h⟩ := h
  obtain ⟨A1, c1, rfl, hc, hL⟩ := h.lenL
  have hks : ks.length ≤ 9223372036854775807 := hr.2.1
  have H := Aside0.mk h
  have HN := Aside0.mk hn
  have HW := Aside0.mk hw
  have HC := Aside0.mk hc
  have HR := Aside0.mk hr
  have HA := Aside0.mk hA
  clear h hn hw hc hr hA
  go_enter Try.func15, Try.ntmps15
  go_wp2
  refine wp_scope_labs ?_
  intro G_ hG_
  go_wp2
  go_step3
  simp only [Exit.then]
  go_step
  refine label_ghost hG_ 0 (by rfl) (fun kq_ a_ w_ => ∃ (kk : Nat) (z : Nat → Value), kk ≤ L.length ∧ L.length - kk ≤ kq_ ∧ Aside0 (DevAt 62 65 w_ S N p gb cb (.slice A1 L.length c1) (aft (fun k => ks.getD k false) L B kk) L) ∧ Aside0 (Fr S w w_) ∧ a_ = (⟨#[.pointer (some ⟨p, 0, none⟩), .slice A ks.length c, z 2, z 3, .int .i64 kk, z 5, z 6, z 7, z 8, z 9, z 10, z 11, z 12, z 13, z 14, z 15, z 16, z 17, z 18, z 19, z 20, z 21, z 22, z 23, z 24, z 25, z 26, z 27, z 28, z 29, z 30, z 31, z 32, z 33, z 34, z 35, z 36, z 37, z 38, z 39, z 40, z 41, z 42, z 43, z 44, z 45, z 46, z 47, z 48, z 49], []⟩ : Act)) L.length ?_ ?_
  · exact ⟨0, fun _ => undef, Nat.zero_le _, by omega, H, ⟨Fr.refl S w⟩, rfl⟩
  intro gko a_ wr hinv_ J_0 K_0 hJ_0 hK_0 hKG_0
  obtain ⟨kk, z, hkk, hg, D, F, ha_⟩ := hinv_
  subst ha_
  have hp0 := cell_of_blk D.out.cell (j := 0) rfl
  have hp1 := cell_of_blk D.out.cell (j := 1) rfl
  have hfz := blk_frozen D.out.cell 1
  have hps := D.out.slt p D.out.sp
  rw [aft_length HN.out HW.out] at hp0
  by_cases hlt : kk < L.length
  · have HX := Aside0.mk (List.getElem?_eq_getElem hlt)
    by_cases hkl : kk < ks.length
    · obtain ⟨ad, rfl, hcf⟩ := at_flag (C_same_bool HR.out (fun a ha => F.out.block _ (HA.out a ha (by omega)).2 (HA.out a ha (by omega)).1)) hkl
      cases hf : ks.getD kk false with
      | true =>
        rw [hf] at hcf
        have HF := Aside0.mk hf
        clear hf
        obtain ⟨g, A', c', rfl, hgS, hc0, hc1, hle, hC, hN⟩ := D.out.item hlt
        have hxw := HW.out _ (List.getElem_mem hlt)
        generalize L[kk]'hlt = x at *
        obtain ⟨x1, x2⟩ := x
        simp only at hc0 hc1 hle hC hxw
        obtain ⟨hx0, hx1, hx2⟩ := hxw
        obtain ⟨q, rfl⟩ := Int.eq_ofNat_of_zero_le hx0
        have hC4 : Aside0 (Kd.C (Kd.int .u8) wr.drew A' x2.length x2) := ⟨C_same hC (fun a ha => rfl)⟩
        have HX2 := Aside0.mk hx2
        have HX1 := Aside0.mk hx1
        have hgs := D.out.slt g hgS
        rw [hx2] at hc1 hle
        have HLE := Aside0.mk hle
        clear hC hN hx2 hx0 hle
        have hq : q < n := by omega
        clear hx1
        have hd4 : Aside0 (DevAt 62 65 wr.drew S N p gb cb (.slice (some ⟨g, 0, none⟩) L.length c1) (aft (fun k => ks.getD k false) L B kk) L) := ⟨D.out.keep (Nat.le_refl _) (fun _ _ => rfl)⟩
        have hcl : n * 64 ≤ cb := by
          obtain ⟨cur, _, h1, h2, _⟩ := D.out.own
          rw [aft_length HN.out HW.out] at h2
          exact h2
        have hwr : IntKind.i64.wrap ((q : Int) * 64) = (q : Int) * 64 := wrapI (by omega) (by omega)
        have hq1 : (0 : Int) ≤ (q : Int) * 64 := by omega
        have hq2 : (q : Int) * 64 ≤ (n : Int) * 64 := by omega
        have hq3 : ((q : Int) * 64).toNat = q * 64 := by omega
        have hq4 : ¬ cb = q * 64 := by omega
        have hq5 : q ≤ n := by omega
        have HS := Aside0.mk (show aft (fun k => ks.getD k false) L B (kk + 1) = dput (aft (fun k => ks.getD k false) L B kk) ((q : Int), x2) by
          have e := HF.out
          show (match L[kk]? with | some x => if ks.getD kk false then _ else _ | none => _) = _
          rw [HX.out, HF.out]; rfl)
        go_wp2
        go_region_law (refine step_dev_copy (x := ((q : Int), x2)) hd4.out (by decide) (by decide) (aft_length HN.out HW.out kk) (Int.natCast_nonneg q) (by simp only; omega) HX2.out hC4.out rfl (.tmp 35) (.tmp 43) 31 31 rfl Try.underlying31 sizeB (q * 64) (n * 64 - q * 64) (cb - q * 64) c' rfl (by omega) rfl rfl ?_; intro w4 d4 f4; have D4 := Aside0.mk d4; have F4 := Aside0.mk f4; clear d4 f4)
        all_goals go_wp2
        all_goals go_step3
        all_goals refine hKG_0 _ _ (hK_0 _ _ (Handed.intro (gko - 1) ?_ (hJ_0 _ _ _ ?_)))
        all_goals first
          | omega
          | (refine ⟨kk + 1, fun k_ => Array.getD #[undef, undef, _, _, undef, _, _, _, _, _, _, _, _, _, _, _, _, _, _, _, _, _, _, _, _, _, _, _, _, _, _, _, _, _, _, _, _, _, _, _, _, _, _, _, _, _, _, _, _, _] k_ undef, by omega, by omega, ⟨?_⟩, ?_, rfl⟩
             · rw [HS.out]; exact D4.out
             · exact ⟨F.out.trans (Fr.trans (Fr.drew (S := S) 1) F4.out (fun _ _ h => h)) (fun _ _ h => h)⟩)
      | false =>
        rw [hf] at hcf
        have HF := Aside0.mk hf
        clear hf
        go_wp2
        go_step3
        refine hKG_0 _ _ (hK_0 _ _ (Handed.intro (gko - 1) ?measure (hJ_0 _ _ _ ?rel_)))
        case measure => omega
        case rel_ =>
          refine ⟨kk + 1, fun k_ => Array.getD #[undef, undef, _, _, undef, _, _, _, _, _, _, _, _, _, _, _, _, _, _, _, _, _, _, _, _, _, _, _, _, _, _, _, _, _, _, _, _, _, _, _, _, _, _, _, _, _, _, _, _, _] k_ undef, by omega, by omega, ⟨?_⟩, ?_, rfl⟩
          · show DevAt _ _ _ _ _ _ _ _ _ (match L[kk]? with | some x => if ks.getD kk false then _ else _ | none => _) _
            rw [HX.out, HF.out]; exact D.out
          · exact F
    · go_wp2
      go_step3
      refine hKG_0 _ _ (hK_0 _ _ (Handed.intro (gko - 1) ?measure (hJ_0 _ _ _ ?rel_)))
      case measure => omega
      case rel_ =>
        refine ⟨kk + 1, fun k_ => Array.getD #[undef, undef, _, _, undef, _, _, _, _, _, _, _, _, _, _, _, _, _, _, _, _, _, _, _, _, _, _, _, _, _, _, _, _, _, _, _, _, _, _, _, _, _, _, _, _, _, _, _, _, _] k_ undef, by omega, by omega, ⟨?_⟩, ?_, rfl⟩
        · show DevAt _ _ _ _ _ _ _ _ _ (match L[kk]? with | some x => if ks.getD kk false then _ else _ | none => _) _
          rw [HX.out, List.getD_eq_getElem?_getD, List.getElem?_eq_none (by omega)]; exact D.out
        · exact F
  · have : kk = L.length := by omega
    subst this
    have hq := D.out.cleared (by decide) (by decide)
    have HQ := Aside0.mk hq
    clear hq
    go_wp2
    try rw [labs_normal]
    go_end0
    exact ⟨rfl, S, N, HQ.out.1, F.out.trans HQ.out.2 (fun _ _ h => h), fun k h => .inl h, fun k h => .inl h⟩
end Go.Proofs.Ytkpfhlfbhceebaa.PAll
