/- The reference's device: Write. -/
import Derived.Test.YtkpfhlfbhceebaaRProg1
import Derived.Test.YtkpfhlfbhceebaaDProg4
namespace Go.Proofs.Ytkpfhlfbhceebaa.PAll
open Go.Proofs.Ytkpfhlfbhceebaa.Help
open Go.RowKit Go.Proofs.YtkpfhlfbhceebaaW.PrintWords Go.Proofs.YtkpfhlfbhceebaaW.PrintLast Go.Proofs.YtkpfhlfbhceebaaW.PrintMore
open Go.Proofs.YtkpfhlfbhceebaaW.PrintWords.Kd (raw reads_raw)
set_option linter.unusedVariables false
set_option linter.unusedSimpArgs false

/-- The row of what waits is another one. -/
theorem DevAt.waits_put {TD TW : Nat} {w W : World} {S N N2 : Nat → Prop} {p gb cb : Nat} {vl v : Value} {B : List Int} {L L' : List (Int × List Int)} (h : DevAt TD TW w S N p gb cb vl B L) (hnd : TD ≠ 5) (hB : Below w.heap.size w W)
    (hR : OwnRow (WItem W (fun k => N k ∨ N2 k)) TW 2 W 0 v L') (hv : ∀ k, v.ownBlock = some k → w.heap.size ≤ k) (hN2 : ∀ k, N2 k → w.heap.size ≤ k ∧ k < W.heap.size ∧ v.ownBlock ≠ some k) :
    W.cell? ⟨p, 1, none⟩ = some vl ∧ W.frozen? ⟨p, 1, none⟩ = false ∧ DevTo TD TW w (W.setCell ⟨p, 1, none⟩ v) S N p B L' := by
  have hp : p < w.heap.size := h.slt p h.sp
  have hgb : gb < w.heap.size := h.slt gb h.sb
  have hWs := hB.size
  have hcp := (hB.block p hp).trans h.cell
  have hpb : gb ≠ p := fun e => by
    obtain ⟨cur, hcur, _⟩ := h.own
    have hc := h.cell
    rw [← e, hcur] at hc
    injection hc with hc; injection hc with _ hc _
    exact hnd hc.symm
  have hset : ∀ k, k ≠ p → (W.setCell ⟨p, 1, none⟩ v).heap[k]? = W.heap[k]? := fun k hk => Below.heap_setCell W _ v k hk
  have hsz : (W.setCell ⟨p, 1, none⟩ v).heap.size = W.heap.size := by simp
  refine ⟨cell_of_blk hcp rfl, blk_frozen hcp _, fun k => S k ∨ v.ownBlock = some k, fun k => N k ∨ N2 k, ⟨gb, cb, v, ?_⟩, ?_, ?_, ?_⟩
  · refine ⟨blk_put hcp 1 v rfl, h.own.same ((hset gb hpb).trans (hB.block gb hgb)), ?_, .inl h.sp, .inl h.sb, fun k hk => .inr hk, ?_, ?_, ?_⟩
    · refine OwnRow_same hR (fun k hk => hset k (fun e => by have := hv k hk; omega)) (fun y c hy => hy.same (fun k hk => hset k (fun e => ?_)) (fun _ h => h))
      subst e
      rcases hk with hk | hk
      · exact h.ns _ h.sp hk
      · have := (hN2 _ hk).1; omega
    · rintro k (hk | hk) (hn | hn)
      · exact h.ns k hk hn
      · have := h.slt k hk; have := (hN2 k hn).1; omega
      · have := h.nlt k hn; have := hv k hk; omega
      · exact (hN2 k hn).2.2 hk
    · rintro k (hk | hk)
      · have := h.slt k hk; rw [hsz]; omega
      · rw [hsz]; exact (OwnRow_lt hR hk).1
    · rintro k (hk | hk)
      · have := h.nlt k hk; rw [hsz]; omega
      · rw [hsz]; exact (hN2 k hk).2.1
  · exact (Fr.of_below (S := S) hB).trans (Fr.set (S := S) (p := ⟨p, 1, none⟩) h.sp v) (fun _ _ h => h)
  · rintro k (hk | hk)
    · exact .inl hk
    · exact .inr (hv k hk)
  · rintro k (hk | hk)
    · exact .inl hk
    · exact .inr (hN2 k hk).1
/-- Disk and waits are others. -/
theorem DevAt.disk_put {TD TW : Nat} {w W : World} {S N : Nat → Prop} {p gb cb gD cD : Nat} {vl : Value} {B B' : List Int} {L : List (Int × List Int)} (h : DevAt TD TW w S N p gb cb vl B L) (hB : Below w.heap.size w W)
    (hO : OwnBy W gD cD B') (hg : w.heap.size ≤ gD) :
    DevTo TD TW w ((W.setCell ⟨p, 0, none⟩ (.slice (some ⟨gD, 0, none⟩) B'.length cD)).setCell ⟨p, 1, none⟩ (.slice none 0 0)) S N p B' [] := by
  have hp : p < w.heap.size := h.slt p h.sp
  have hWs := hB.size
  have hcp := (hB.block p hp).trans h.cell
  have hgl := hO.lt
  have hset : ∀ k, k ≠ p → ((W.setCell ⟨p, 0, none⟩ (.slice (some ⟨gD, 0, none⟩) B'.length cD)).setCell ⟨p, 1, none⟩ (.slice none 0 0)).heap[k]? = W.heap[k]? := fun k hk =>
    (Below.heap_setCell _ _ _ k hk).trans (Below.heap_setCell W _ _ k hk)
  have hsz : ((W.setCell ⟨p, 0, none⟩ (.slice (some ⟨gD, 0, none⟩) B'.length cD)).setCell ⟨p, 1, none⟩ (.slice none 0 0)).heap.size = W.heap.size := by simp
  refine ⟨fun k => S k ∨ k = gD, N, ⟨gD, cD, .slice none 0 0, ?_⟩, ?_, ?_, fun k hk => .inl hk⟩
  · refine ⟨blk_put (blk_put hcp 0 _ rfl) 1 _ rfl, hO.same (hset gD (by omega)), OwnRow.none_ _ _ _ _ _, .inl h.sp, .inr rfl, fun k hk => by simp [Value.ownBlock] at hk, ?_, ?_, ?_⟩
    · rintro k (hk | rfl) hn
      · exact h.ns k hk hn
      · have := h.nlt _ hn; omega
    · rintro k (hk | rfl)
      · have := h.slt k hk; rw [hsz]; omega
      · rw [hsz]; exact hgl
    · intro k hk
      have := h.nlt k hk; rw [hsz]; omega
  · exact ((Fr.of_below (S := S) hB).trans (Fr.set (S := S) (p := ⟨p, 0, none⟩) h.sp _) (fun _ _ h => h)).trans (Fr.set (S := S) (p := ⟨p, 1, none⟩) h.sp _) (fun _ _ h => h)
  · rintro k (hk | rfl)
    · exact .inl hk
    · exact .inr hg
theorem ref_write_bad {w : World} {S N : Nat → Prop} {p : Nat} {B : List Int} {L : List (Int × List Int)} (h : Dev 58 67 w S N p B L) {n : Nat} (hn : B.length = n * 64) (hm : n ≤ 1024) {i : Int} {A : Option Addr} {l c : Nat} (hl : l ≤ 9223372036854775807) (hb : ¬ (0 ≤ i ∧ i < n) ∨ l ≠ 64) :
    Calls Try.prog 12 #[.pointer (some ⟨p, 0, none⟩), .int .i64 i, .slice A l c] w fun e w' => e = .returned (.int .i64 1) ∧ w = w' := by
  have hbl := Aside0.mk (ref_blocks h hn hm)
  clear h
  go_enter Try.func12, Try.ntmps12
  by_cases h0 : i < 0
  · go_wp2_with (go_at_call 29; refine hbl.out.mono ?_; rintro e w' ⟨rfl, rfl⟩)
    all_goals first | (exfalso; omega) | skip
    all_goals go_ret
    all_goals exact ⟨rfl, rfl⟩
  · by_cases h1 : (n : Int) ≤ i
    · go_wp2_with (go_at_call 29; refine hbl.out.mono ?_; rintro e w' ⟨rfl, rfl⟩)
      all_goals first | (exfalso; omega) | skip
      all_goals go_ret
      all_goals exact ⟨rfl, rfl⟩
    · have hl2 : ((l : Int) != 64) = true := by simp; omega
      go_wp2_with (go_at_call 29; refine hbl.out.mono ?_; rintro e w' ⟨rfl, rfl⟩)
      all_goals first | (exfalso; omega) | skip
      all_goals go_ret
      all_goals exact ⟨rfl, rfl⟩
set_option maxRecDepth 100000 in
set_option maxHeartbeats 4000000 in
theorem ref_write {w : World} {S N : Nat → Prop} {p : Nat} {B : List Int} {L : List (Int × List Int)} (h : Dev 58 67 w S N p B L) {n : Nat} (hn : B.length = n * 64) (hm : n ≤ 1024) (hL : L.length < 4294967296) {i : Int} (h0 : 0 ≤ i) (hi : i < n)
    {A : Option Addr} {c : Nat} {bs : List Int} (hr : Kd.C (Kd.int .u8) w A bs.length bs) (hc : bs.length ≤ c) (h64 : bs.length = 64) :
    Calls Try.prog 12 #[.pointer (some ⟨p, 0, none⟩), .int .i64 i, .slice A bs.length c] w fun e w' =>
      e = .returned (.int .i64 0) ∧ DevTo 58 67 w w' S N p B (L ++ [(i, bs)]) := by
  have hbl := Aside0.mk (ref_blocks h hn hm)
  obtain ⟨gb, cb, vl, h⟩ := h
  obtain ⟨A1, c1, rfl, hc1, hrd⟩ := h.row.reads
  obtain ⟨news, hnl, hnr, hnf⟩ := reads_raw hrd (fun y c hk => hk.shape)
  have hp1 := cell_of_blk h.cell (j := 1) rfl
  have hfz := blk_frozen h.cell 1
  have hps := h.slt p h.sp
  have H := Aside0.mk h
  have HR : Aside0 (Kd.C (Kd.int .u8) w A 64 bs) := ⟨by rw [h64] at hr; exact hr⟩
  have HNL := Aside0.mk hnl
  have HNR := Aside0.mk hnr
  have HNF := Aside0.mk hnf
  have HL0 := Aside0.mk hL
  have H64 := Aside0.mk h64
  rw [h64] at hc ⊢
  have hd0 : decide (i < 0) = false := by simp; omega
  have hd1 : decide ((n : Int) ≤ i) = false := by simp; omega
  clear h hn hr hnl hnr hnf hrd hL h64
  go_enter Try.func12, Try.ntmps12
  go_wp2_with (first
    | (go_at_call 29; refine hbl.out.mono ?_; rintro e w' ⟨rfl, rfl⟩)
    | ((with_reducible refine gate_dst (N := 21) rfl ?_); refine Kd.R_lit (raw 2) _ 67 ?hg (N := 21) ?hd (xs := ([] : List (List Value))) (inner := []) (ok := fun _ => True) (okp := fun _ => True) ?hr ?hp (fun _ hk => hk) trivial (Below.refl _ _) (Nat.le_refl _) (by simp) ?_; (case hd => rfl); (case hg => rfl); (case hr => first | (go_simp; done) | (go_simp; rfl)); (case hp => exact (Reps.none _ _)); intro v21 w1 ho5 hb hg_ hnew_; clear hg_ hnew_; have HO21 := Aside0.mk ho5; have HB21 := Aside0.mk hb; clear ho5 hb; have hp1a := (HB21.out.cell (p := ⟨p, 1, none⟩) hps).trans hp1)
    | ((with_reducible refine gate_builtin (b := .append) (xs := #[.tmp 21, .tmp 25]) rfl ?_); at_builtin; refine Kd.R_append_rows (raw 2) (w0 := w) w.heap.size rfl (.tmp 21) (.tmp 25) 56 67 (.agg #[.int .i64 0, .slice none 0 0]) 32 rfl Try.underlying56 infoRW rfl (by decide) (by omega) v21 [] news _ _ _ (fun _ => True) (fun _ => False) rfl rfl ?aO ?aR (fun _ _ h => h) (fun _ h => h.elim) ?aF ?aB ?aS ?aL ?_; (case aR => exact (Kd.C_below HNR.out HB21.out)); (case aB => exact HB21.out); (case aF => exact (fun _ _ => trivial)); (case aO => exact HO21.out); (case aS => exact HB21.out.size); (case aL => have := HL0.out; first | (simp; done) | (simp; omega)); intro v26 w2 ho hb hg hat; have HO26 := Aside0.mk ho; have HB26 := Aside0.mk hb; clear ho hb hg hat)
    | ((with_reducible refine gate_dst (N := 28) rfl ?_); refine Kd.R_lit (Kd.int .u8) _ 5 ?hg (N := 28) ?hd (xs := ([] : List (Int))) (inner := []) (ok := fun _ => True) (okp := fun _ => True) ?hr ?hp (fun _ hk => hk) trivial (Below.refl _ _) (Nat.le_refl _) (by simp) ?_; (case hd => rfl); (case hg => rfl); (case hr => first | (go_simp; done) | (go_simp; rfl)); (case hp => exact (Reps.none _ _)); intro v28 w3 ho5 hb hg_ hnew_; clear hg_ hnew_; have HO28 := Aside0.mk ho5; have HB28 := Aside0.mk hb; clear ho5 hb)
    | ((with_reducible refine gate_builtin (b := .append) (xs := #[.tmp 28, .tmp 29]) rfl ?_); at_builtin; refine Kd.R_append_rows (Kd.int .u8) (w0 := w2) w2.heap.size rfl (.tmp 28) (.tmp 29) 31 5 (.int .u8 0) 1 rfl Try.underlying31 info5 rfl (by decide) (by omega) v28 [] bs _ _ _ (fun _ => True) (fun _ => False) rfl rfl ?aO ?aR (fun _ _ h => h) (fun _ h => h.elim) ?aF ?aB ?aS ?aL ?_; (case aR => exact (Kd.C_below (Kd.C_below HR.out HB26.out) HB28.out)); (case aB => exact HB28.out); (case aF => exact (fun _ _ => trivial)); (case aO => exact HO28.out); (case aS => exact HB28.out.size); (case aL => have := H64.out; first | (simp; done) | (simp; omega)); intro v30 w4 ho hb hg hat; have HO30 := Aside0.mk ho; have HB30 := Aside0.mk hb; clear ho hb hg hat; have ho := HO30.out; rw [List.nil_append] at ho; obtain ⟨gA, cA, rfl, hgA, hcA, hO'⟩ := own_form ho (by rw [H64.out]; decide); (try rw [H64.out] at hcA); (try rw [H64.out]); have HOA := Aside0.mk hO'; clear hO' ho HO30)
    | ((with_reducible refine gate_builtin (b := .append) (xs := #[.tmp 26, .tmp 32]) rfl ?_); at_builtin
       have hBw4 : Below w.heap.size w w4 := below_step HB26.out HB30.out
       have hlt26 : ∀ k, v26.ownBlock = some k → k < w2.heap.size := fun k hk => (OwnRow_lt (OwnRow_of_raw (Rr := fun _ _ => True) (ps := news) (by have := HO26.out; rw [List.nil_append] at this; exact this) rfl (fun _ _ _ _ _ => trivial)) hk).1
       have hrow0 : OwnRow (WItem w4 (fun k => N k ∨ k = gA)) 67 2 w2 w.heap.size v26 L := OwnRow_of_raw (by have := HO26.out; rw [List.nil_append] at this; exact this) HNL.out (fun j x c h1 h2 => (HNF.out j x c h1 h2).same (fun k hk => hBw4.block k (H.out.nlt k hk)) (fun _ hk => .inl hk))
       have hrow4 : OwnRow (WItem w4 (fun k => N k ∨ k = gA)) 67 2 w4 w.heap.size v26 L := OwnRow_same hrow0 (fun k hk => HB30.out.block k (hlt26 k hk)) (fun _ _ h => h)
       refine OwnRow.append (R := WItem w4 (fun k => N k ∨ k = gA)) (w0 := w) (W := w4) w.heap.size rfl (.tmp 26) (.tmp 32) 56 67 (.agg #[.int .i64 0, .slice none 0 0]) 2 32 rfl Try.underlying56 infoRW rfl (by decide) (by decide) v26 L (i, bs) [.int .i64 i, .slice (some ⟨gA, 0, none⟩) 64 cA] rfl rfl (WItem_new H64.out HOA.out hcA) rfl (by simp [Value.oneCell']) hrow4 hBw4 hBw4.size (by have := HL0.out; omega) ?_
       intro v33 w5 hrow hb5 hg hv
       have hgl := HOA.out.lt
       have hne : v26.ownBlock ≠ some gA := fun e => by have := hlt26 _ e; omega
       have hbase : ∀ k, v26.ownBlock = some k → w.heap.size ≤ k := fun k hk => Kd.R_base HO26.out k hk
       have hs4 := hBw4.size
       have hs24 := HB30.out.size
       have hs26 := HB26.out.size
       have H5 : OwnRow (WItem w5 (fun k => N k ∨ k = gA)) 67 2 w5 0 v33 (L ++ [(i, bs)]) := (OwnRow_same hrow (fun _ _ => rfl) (fun y c hy => hy.same (fun k hk => by
         rcases hk with hk | hk
         · rw [hb5.block k (H.out.nlt k hk), hBw4.block k (H.out.nlt k hk)]
         · subst hk; exact grown_blk hg hgl hne) (fun _ h => h))).lower (Nat.zero_le _)
       have hq := DevAt.waits_put H.out (by decide) hb5 H5 (fun k hk => by
         rcases hv with e | ⟨b, e, hb⟩
         · exact hbase k (e ▸ hk)
         · rw [e] at hk; injection hk with hk; omega) (fun k hk => by
         subst hk
         refine ⟨by omega, Nat.lt_of_lt_of_le hgl hg.size, fun e => ?_⟩
         rcases hv with e' | ⟨b, e', hb⟩
         · exact hne (e' ▸ e)
         · rw [e'] at e; injection e with e; omega)
       obtain ⟨A2, c2, rfl, hc2⟩ := hrow.slice_
       obtain ⟨q1, q2, q3⟩ := hq
       have Q3 := Aside0.mk q3
       clear q3 hrow hb5 hg hv H5 hrow4 hrow0 hlt26 hbase hne hBw4))
  all_goals first | (exfalso; omega) | skip
  all_goals go_ret
  all_goals exact ⟨rfl, by have q := Q3.out; rw [List.length_append, List.length_singleton] at q; exact q⟩
end Go.Proofs.Ytkpfhlfbhceebaa.PAll
