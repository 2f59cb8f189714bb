/- The program's devices: Clone of what waits, Twin, Bytes. -/
import Derived.Test.YtkpfhlfbhceebaaDProg3
namespace Go.Proofs.Ytkpfhlfbhceebaa.PAll
open Go.Proofs.Ytkpfhlfbhceebaa.Help
open Go.RowKit Go.Proofs.YtkpfhlfbhceebaaW.PrintWords Go.Proofs.YtkpfhlfbhceebaaW.PrintLast Go.Proofs.YtkpfhlfbhceebaaW.PrintMore
open Go.Proofs.YtkpfhlfbhceebaaW.PrintWords.Kd (raw reads_raw)
set_option linter.unusedVariables false
set_option linter.unusedSimpArgs false
theorem WItem.shape {w : World} {N : Nat → Prop} {x : Int × List Int} {c : List Value} (h : WItem w N x c) : c.length = 2 ∧ ∀ u ∈ c, u.oneCell' = true := by
  obtain ⟨A, c', rfl, _⟩ := h
  exact ⟨rfl, by simp [Value.oneCell']⟩
theorem OwnRow_of_raw {α : Type} {Rr : α → List Value → Prop} {e base : Nat} {w : World} {ok : Nat → Prop} {v : Value} {ps : List α} {news : List (List Value)} (h : (raw 2).R e w base ok v news) (hl : news.length = ps.length) (hn : ∀ (j : Nat) (x : α) (c : List Value), ps[j]? = some x → news[j]? = some c → Rr x c) : OwnRow Rr e 2 w base v ps := by
  obtain ⟨_, inner, ho, hr⟩ := h
  refine ⟨inner, by rw [← hl]; exact ho, by rw [hr.1, hl]; rfl, fun j x hj => ?_⟩
  have hjl : j < news.length := by rw [hl]; exact (List.getElem?_eq_some_iff.1 hj).1
  have hM := hr.2 j _ (List.getElem?_eq_getElem hjl)
  have hM1 : (inner.drop (j * 2)).take 2 = news[j]'hjl := hM.1
  rw [hM1]
  exact hn j x _ hj (List.getElem?_eq_getElem hjl)
set_option maxHeartbeats 8000000 in
theorem clone_waits {w : World} {N : Nat → Prop} {A : Option Addr} {c : Nat} {L : List (Int × List Int)} (hr : ReadsRow (WItem w N) 2 w A L.length L) (hc : L.length ≤ c) (hl : L.length < 4294967296) :
    Calls Try.prog 30 #[.slice A L.length c] w fun e w' => ∃ v, e = .returned v ∧ OwnRow (WItem w N) 65 2 w' 0 v L ∧ (∀ k, v.ownBlock = some k → w.heap.size ≤ k) ∧ Below w.heap.size w w' := by
  obtain ⟨news, hnl, hnr, hnf⟩ := reads_raw hr (fun y c hk => hk.shape)
  have HR0 := Aside0.mk hnr
  have HL := Aside0.mk hnl
  have HF := Aside0.mk hnf
  have LM := Aside0.mk hl
  have HB := Aside0.mk (Below.refl w.heap.size w)
  have H0 : Aside0 (A = none → L = []) := ⟨fun e => by
    cases L with
    | nil => rfl
    | cons a t => obtain ⟨ad, h, _⟩ := hr.2.2 (by simp); rw [e] at h; cases h⟩
  clear hr hnr hnl hnf hl
  cases A with
  | none =>
    have e0 := H0.out rfl
    subst e0
    have HN := @Lib.run_eql_slice_nil Try.prog w 60 65 none 0 c 0 0 Try.underlying60
    go_enter Try.func30, Try.ntmps30
    go_wp2
    go_ret
    exact ⟨_, rfl, OwnRow.none_ _ _ _ _ _, fun k hk => by simp [Value.ownBlock] at hk, HB.out⟩
  | some ad =>
    have HN := @Lib.run_eql_slice_nil Try.prog w 60 65 (some ad) L.length c 0 0 Try.underlying60
    go_enter Try.func30, Try.ntmps30
    go_wp2_with (first
      | ((with_reducible refine gate_dst (N := 5) rfl ?_); refine Kd.R_lit (raw 2) _ 65 ?hg (N := 5) ?hd (xs := ([] : List (List Value))) (inner := []) (ok := fun _ => True) (okp := fun _ => True) ?hr ?hp (fun _ hk => hk) trivial (Below.refl _ _) (Nat.le_refl _) (by simp) ?_; (case hd => rfl); (case hg => rfl); (case hr => first | (go_simp; done) | (go_simp; rfl)); (case hp => exact (Reps.none _ _)); intro v5 w4 ho5 hb hg_ hnew_; clear hg_ hnew_; have HO5 := Aside0.mk (Kd.R_lower ho5 (below_size HB.out)); have n1_ := Aside0.mk (below_step HB.out hb); clear HB; have HB := n1_; clear n1_; clear hb ho5)
      | ((with_reducible refine gate_builtin (b := .append) (xs := #[.tmp 5, .tmp 6]) rfl ?_); at_builtin; refine Kd.R_append_rows (raw 2) (w0 := w) w.heap.size rfl (.tmp 5) (.tmp 6) 60 65 (.agg #[.int .i64 0, .slice none 0 0]) 32 rfl Try.underlying60 infoW rfl (by decide) (by omega) v5 [] news _ _ _ (fun _ => True) (fun _ => False) rfl rfl ?aO ?aR (fun _ _ h => h) (fun _ h => h.elim) ?aF ?aB ?aS ?aL ?_; (case aR => exact (Kd.C_below HR0.out HB.out)); (case aB => exact HB.out); (case aF => exact (fun _ _ => trivial)); (case aO => exact HO5.out); (case aS => exact (below_size HB.out)); (case aL => have := LM.out; simp; omega); intro v7 w6 ho hb hg hat; have n0_ := Aside0.mk (hb); have HO7 := Aside0.mk (ho); clear HB; have HB := n0_; clear n0_; clear ho hb hg hat))
    go_ret
    refine ⟨_, rfl, (OwnRow_of_raw (by simpa using HO7.out) HL.out HF.out).lower (Nat.zero_le _), fun k hk => Kd.R_base HO7.out k hk, HB.out⟩
theorem DevNew.twin {TD TW : Nat} {w W W0 W1 W2 : World} {S N : Nat → Prop} {p gb cb g cap : Nat} {vl v : Value} {B : List Int} {L : List (Int × List Int)} (h : DevAt TD TW w S N p gb cb vl B L) (hB : Below w.heap.size w W) (hnd : TD ≠ 5) (hne : TW ≠ 5)
    (hO : OwnBy W2 g cap B) (hg : w.heap.size ≤ g) (hW2 : Below W2.heap.size W2 W) (hR : OwnRow (WItem W0 N) TW 2 W1 0 v L) (hW1 : Below W1.heap.size W1 W) (hW0 : Below w.heap.size w W0) (hv : ∀ k, v.ownBlock = some k → w.heap.size ≤ k) :
    DevNew TD TW w (W.alloc (.cells #[.slice (some ⟨g, 0, none⟩) B.length cap, v] TD)) N W.heap.size B L := by
  have hWs := hB.size
  have hgW : g < W.heap.size := Nat.lt_of_lt_of_le hO.lt hW2.size
  have hvW : ∀ k, v.ownBlock = some k → k < W.heap.size := fun k hk => Nat.lt_of_lt_of_le (OwnRow_lt hR hk).1 hW1.size
  have ha : ∀ k, k < W.heap.size → (W.alloc (.cells #[.slice (some ⟨g, 0, none⟩) B.length cap, v] TD)).heap[k]? = W.heap[k]? := fun k hk => Below.heap_alloc W _ k hk
  refine ⟨fun k => k = W.heap.size ∨ k = g ∨ v.ownBlock = some k, N, ⟨g, cap, v, ?_, ?_, ?_, .inl rfl, .inr (.inl rfl), fun k hk => .inr (.inr hk), ?_, ?_, ?_⟩, (Fr.of_below hB).trans (Fr.alloc (S := fun _ => False) W _) (fun _ _ h => h), ?_, fun k h => .inl h⟩
  · exact new_blk _ _
  · exact hO.same ((ha g hgW).trans (hW2.block g hO.lt))
  · exact OwnRow_same hR (fun k hk => (ha k (hvW k hk)).trans (hW1.block k (OwnRow_lt hR hk).1)) (fun y c hy => hy.same (fun k hk => by
      have hk := h.nlt k hk
      rw [ha k (by omega), hB.block k hk, hW0.block k hk]) (fun _ h => h))
  · rintro k (rfl | rfl | hk) hn
    · have := h.nlt _ hn; omega
    · have := h.nlt _ hn; omega
    · have := h.nlt _ hn; have := hv k hk; omega
  · rintro k (rfl | rfl | hk)
    · simp
    · simp; omega
    · have := hvW k hk; simp; omega
  · intro k hk
    have := h.nlt k hk
    simp; omega
  · rintro k (rfl | rfl | hk)
    · exact hWs
    · exact hg
    · exact hv k hk
theorem dev_twin {w : World} {S N : Nat → Prop} {p : Nat} {B : List Int} {L : List (Int × List Int)} (h : Dev 62 65 w S N p B L) {n : Nat} (hn : B.length = n * 64) (h4 : 4 ≤ n) (hm : n ≤ 1024) (hl : L.length < 4294967296) :
    Calls Try.prog 17 #[.pointer (some ⟨p, 0, none⟩)] w fun e w' =>
      ∃ p2, e = .returned (.pointer (some ⟨p2, 0, none⟩)) ∧ DevNew 62 65 w w' N p2 B L := by
  obtain ⟨gb, cb, vl, h⟩ := h
  obtain ⟨A, c, rfl, hc, hrd⟩ := h.row.reads
  have h0 := cell_of_blk h.cell (j := 0) rfl
  have h1 := cell_of_blk h.cell (j := 1) rfl
  have hps := h.slt p h.sp
  have hgs := h.slt gb h.sb
  have hcb : B.length ≤ cb := by obtain ⟨_, _, _, h2, _⟩ := h.own; exact h2
  have hrl := hrd
  have hcl : Aside0 (∀ W : World, Below w.heap.size w W → Calls Try.prog 28 #[.slice (some ⟨gb, 0, none⟩) B.length cb] W fun e w' => ∃ g cap, e = .returned (.slice (some ⟨g, 0, none⟩) B.length cap) ∧ W.heap.size ≤ g ∧ B.length ≤ cap ∧ OwnBy w' g cap B ∧ Below W.heap.size W w') :=
    ⟨fun W hW => clone_ok (h.own.same (hW.block gb hgs)).reads hcb (by omega) (by omega)⟩
  have hcw : Aside0 (∀ W : World, Below w.heap.size w W → Calls Try.prog 30 #[.slice A L.length c] W fun e w' => ∃ v, e = .returned v ∧ OwnRow (WItem W N) 65 2 w' 0 v L ∧ (∀ k, v.ownBlock = some k → W.heap.size ≤ k) ∧ Below W.heap.size W w') :=
    ⟨fun W hW => by
      have hR := OwnRow_same h.row (fun k hk => hW.block k (h.slt k (h.sl k hk))) (fun y cc hy => hy.same (N' := N) (fun k hk => hW.block k (h.nlt k hk)) (fun _ h => h))
      obtain ⟨A', c', e, _, hrd'⟩ := hR.reads
      injection e with e1 _ e2
      subst e1
      exact clone_waits hrd' hc hl⟩
  have HB0 : Aside0 (Below w.heap.size w w.drew) := ⟨⟨rfl, rfl, rfl, Nat.le_refl _, fun _ _ => rfl⟩⟩
  have H := Aside0.mk h
  have HN := Aside0.mk hn
  clear h hn hrd hrl hl
  go_enter Try.func17, Try.ntmps17
  go_wp2
  go_region_law (first
    | (go_simp; go_at_call 28; refine (hcl.out _ (by first | exact HBw.out | exact HB0.out)).mono ?_; rintro e w1 ⟨g, cap, rfl, hg, hnc, hO, hB⟩; have HOb := Aside0.mk hO; have HGb := Aside0.mk hg; have HSb := Aside0.mk hB; have HBb := Aside0.mk (below_step (by first | exact HBw.out | exact HB0.out) hB); have h0b : w1.cell? ⟨p, 0, none⟩ = some _ := (HBb.out.cell (p := ⟨p, 0, none⟩) hps).trans h0; have h1b : w1.cell? ⟨p, 1, none⟩ = some _ := (HBb.out.cell (p := ⟨p, 1, none⟩) hps).trans h1; clear hO hB hg)
    | (go_simp; go_at_call 30; refine (hcw.out _ (by first | exact HBb.out | exact HB0.out)).mono ?_; rintro e w2 ⟨v, rfl, hO, hg, hB⟩; obtain ⟨Av, cv, rfl, hcv⟩ := hO.slice_; have HOw := Aside0.mk hO; have HGw := Aside0.mk hg; have HSw := Aside0.mk hB; have HBw := Aside0.mk (below_step (by first | exact HBb.out | exact HB0.out) hB); have h0w : w2.cell? ⟨p, 0, none⟩ = some _ := (HBw.out.cell (p := ⟨p, 0, none⟩) hps).trans h0; have h1w : w2.cell? ⟨p, 1, none⟩ = some _ := (HBw.out.cell (p := ⟨p, 1, none⟩) hps).trans h1; clear hO hB hg))
  all_goals go_wp2
  all_goals go_ret
  all_goals first
    | exact ⟨w2.heap.size, rfl, DevNew.twin H.out HBw.out (by decide) (by decide) HOb.out (Nat.le_trans (by first | exact HB0.out.size | exact HBw.out.size) HGb.out) HSw.out HOw.out (Below.refl _ _) HBb.out (fun k hk => Nat.le_trans (by first | exact HB0.out.size | exact HBb.out.size) (HGw.out k hk))⟩
    | exact ⟨w1.heap.size, rfl, DevNew.twin H.out HBb.out (by decide) (by decide) HOb.out (Nat.le_trans (by first | exact HB0.out.size | exact HBw.out.size) HGb.out) (Below.refl _ _) HOw.out HSb.out HB0.out (fun k hk => Nat.le_trans (by first | exact HB0.out.size | exact HBb.out.size) (HGw.out k hk))⟩
theorem dev_bytes {w : World} {S N : Nat → Prop} {p : Nat} {B : List Int} {L : List (Int × List Int)} (h : Dev 62 65 w S N p B L) {n : Nat} (hn : B.length = n * 64) (h4 : 4 ≤ n) (hm : n ≤ 1024) (hl : L.length < 4294967296) (hw : Waits n L) :
    Calls Try.prog 24 #[.pointer (some ⟨p, 0, none⟩)] w fun e w' =>
      ∃ g cap, e = .returned (.slice (some ⟨g, 0, none⟩) (aft (fun _ => true) L B L.length).length cap) ∧ (aft (fun _ => true) L B L.length).length ≤ cap ∧ w.heap.size ≤ g ∧ OwnBy w' g cap (aft (fun _ => true) L B L.length) ∧ Fr (fun _ => False) w w' := by
  have ht := Aside0.mk (dev_twin h hn h4 hm hl)
  have HN := Aside0.mk hn
  have HW := Aside0.mk hw
  clear h hn hw hl
  go_enter Try.func24, Try.ntmps24
  go_wp2_with (first
    | (go_at_call 17; refine ht.out.mono ?_; rintro e w1 ⟨p2, rfl, S1, N1, hD, hF, hS, hN⟩; have HD := Aside0.mk hD; have HF := Aside0.mk hF; have HS := Aside0.mk hS; clear hD hF hS hN)
    | (go_at_call 13; refine (dev_sync HD.out HN.out hm HW.out).mono ?_; rintro e w2 ⟨rfl, S2, N2, ⟨g2, c2, v2, hD2⟩, hF2, hS2, hN2⟩; have h0 := cell_of_blk hD2.cell (j := 0) rfl; have HD2 := Aside0.mk hD2; have HF2 := Aside0.mk hF2; have HS2 := Aside0.mk hS2; clear hD2 hF2 hS2 hN2))
  go_ret
  refine ⟨g2, c2, rfl, ?_, ?_, HD2.out.own, ?_⟩
  · obtain ⟨_, _, _, h2, _⟩ := HD2.out.own
    exact h2
  · rcases HS2.out _ HD2.out.sb with hq | hq
    · exact HS.out _ hq
    · exact Nat.le_trans HF.out.size hq
  · exact ⟨HF2.out.os.trans HF.out.os, HF2.out.tape.trans HF.out.tape, HF2.out.output.trans HF.out.output, Nat.le_trans HF.out.size HF2.out.size, fun k hk _ => (HF2.out.block k (Nat.lt_of_lt_of_le hk HF.out.size) (fun hq => by have := HS.out _ hq; omega)).trans (HF.out.block k hk (fun hq => hq))⟩
end Go.Proofs.Ytkpfhlfbhceebaa.PAll
