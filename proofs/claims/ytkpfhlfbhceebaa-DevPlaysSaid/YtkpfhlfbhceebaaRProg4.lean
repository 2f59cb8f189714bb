/- The reference's device: Twin, Bytes. -/
import Derived.Test.YtkpfhlfbhceebaaRProg3
namespace Go.Proofs.Ytkpfhlfbhceebaa.PAll
open Go.Proofs.Ytkpfhlfbhceebaa.Help
open Go.RowKit Go.Proofs.YtkpfhlfbhceebaaW.PrintWords Go.Proofs.YtkpfhlfbhceebaaW.PrintLast Go.Proofs.YtkpfhlfbhceebaaW.PrintMore
open Go.Proofs.YtkpfhlfbhceebaaW.PrintWords.Kd (raw reads_raw)
set_option linter.unusedVariables false
set_option linter.unusedSimpArgs false

theorem R_of_blk {α : Type} {d : Kd α} {t base g : Nat} {W : World} (h : W.heap[g]? = some (.cells #[] t (0, 0))) (hb : base ≤ g) : d.R t W base (fun _ => True) (.slice (some ⟨g, 0, none⟩) 0 0) ([] : List α) :=
  ⟨fun _ _ => trivial, [], ⟨by simp, .inr ⟨g, 0, #[], rfl, hb, h, Nat.le_refl _, by unfold maxLen; omega, by simp, by simp⟩⟩, Reps.none _ _⟩
theorem ne_of_hat {gB cB n g3 sz k : Nat} (hat : (Value.slice (some ⟨gB, 0, none⟩) n cB).ownBlock = (Value.slice (some ⟨g3, 0, none⟩) 0 0).ownBlock ∨ ∃ b, (Value.slice (some ⟨gB, 0, none⟩) n cB).ownBlock = some b ∧ sz ≤ b) (h3 : g3 ≠ k) (hs : k < sz) : gB ≠ k := by
  rcases hat with e | ⟨b, e, hb⟩
  · simp [Value.ownBlock] at e
    omega
  · simp [Value.ownBlock] at e
    omega
set_option maxRecDepth 100000 in
set_option maxHeartbeats 4000000 in
theorem ref_twin {w : World} {S N : Nat → Prop} {p : Nat} {B : List Int} {L : List (Int × List Int)} (h : Dev 58 67 w S N p B L) {n : Nat} (hn : B.length = n * 64) (h4 : 4 ≤ n) (hm : n ≤ 1024) (hl : L.length < 4294967296) :
    Calls Try.prog 34 #[.pointer (some ⟨p, 0, none⟩)] w fun e w' =>
      ∃ p2, e = .returned (.pointer (some ⟨p2, 0, none⟩)) ∧ DevNew 58 67 w w' N p2 B L := by
  obtain ⟨gb, cb, vl, h⟩ := h
  obtain ⟨A1, c1, rfl, hc1, hrd⟩ := h.row.reads
  obtain ⟨news, hnl, hnr, hnf⟩ := reads_raw hrd (fun y c hk => hk.shape)
  have hp0 := cell_of_blk h.cell (j := 0) rfl
  have hp1 := cell_of_blk h.cell (j := 1) rfl
  have hps := h.slt p h.sp
  have HRD : Aside0 (Kd.C (Kd.int .u8) w (some ⟨gb, 0, none⟩) (n * 64) B) := ⟨by have := h.own.reads; rw [hn] at this; exact this⟩
  rw [hn] at hp0
  have H := Aside0.mk h
  have HNL := Aside0.mk hnl
  have HNR := Aside0.mk hnr
  have HNF := Aside0.mk hnf
  have HL0 := Aside0.mk hl
  have HN := Aside0.mk hn
  have HB0 : Aside0 (Below w.heap.size w w.drew) := ⟨⟨rfl, rfl, rfl, Nat.le_refl _, fun _ _ => rfl⟩⟩
  have hd0 : w.drew.cell? ⟨p, 0, none⟩ = some (.slice (some ⟨gb, 0, none⟩) (n * 64) cb) := hp0
  have hd1 : w.drew.cell? ⟨p, 1, none⟩ = some (.slice A1 L.length c1) := hp1
  have hpd : p < w.drew.heap.size := hps
  clear h hn hnl hnr hnf hrd hl
  go_enter Try.func34, Try.ntmps34
  go_wp2
  have b1 : Aside0 (Below w.heap.size w (w.alloc (.cells #[] 5)).drew) := ⟨(HB0.out.alloc (Nat.le_refl _) (.cells #[] 5))⟩
  have b2 : Aside0 (Below w.heap.size w ((w.alloc (.cells #[] 5)).alloc (.cells #[] 67)).drew) := ⟨(HB0.out.alloc (Nat.le_refl _) (.cells #[] 5)).alloc (by simp) (.cells #[] 67)⟩
  have b3 : Aside0 (Below w.heap.size w ((w.alloc (.cells #[] 67)).alloc (.cells #[] 5)).drew) := ⟨(HB0.out.alloc (Nat.le_refl _) (.cells #[] 67)).alloc (by simp) (.cells #[] 5)⟩
  have s1 : (w.alloc (.cells #[] 5)).drew.heap.size = w.heap.size + 1 := by show (w.alloc (.cells #[] 5)).heap.size = _; simp
  have s2 : ((w.alloc (.cells #[] 5)).alloc (.cells #[] 67)).drew.heap.size = w.heap.size + 2 := by show ((w.alloc (.cells #[] 5)).alloc (.cells #[] 67)).heap.size = _; simp
  have s3 : ((w.alloc (.cells #[] 67)).alloc (.cells #[] 5)).drew.heap.size = w.heap.size + 2 := by show ((w.alloc (.cells #[] 67)).alloc (.cells #[] 5)).heap.size = _; simp
  have k1 : Aside0 ((w.alloc (.cells #[] 5)).drew.heap[w.heap.size]? = some (.cells #[] 5)) := ⟨new_blk _ _⟩
  have k2 : Aside0 (((w.alloc (.cells #[] 5)).alloc (.cells #[] 67)).drew.heap[w.heap.size]? = some (.cells #[] 5)) := ⟨(Below.heap_alloc (w.alloc (.cells #[] 5)) (.cells #[] 67) w.heap.size (by simp)).trans (new_blk _ _)⟩
  have k2' : Aside0 (((w.alloc (.cells #[] 5)).alloc (.cells #[] 67)).drew.heap[w.heap.size + 1]? = some (.cells #[] 67)) := ⟨by have := new_blk (w.alloc (.cells #[] 5)) (.cells #[] 67); rw [show (w.alloc (.cells #[] 5)).heap.size = w.heap.size + 1 from by simp] at this; exact this⟩
  have k3 : Aside0 (((w.alloc (.cells #[] 67)).alloc (.cells #[] 5)).drew.heap[w.heap.size + 1]? = some (.cells #[] 5)) := ⟨by have := new_blk (w.alloc (.cells #[] 67)) (.cells #[] 5); rw [show (w.alloc (.cells #[] 67)).heap.size = w.heap.size + 1 from by simp] at this; exact this⟩
  have k3' : Aside0 (((w.alloc (.cells #[] 67)).alloc (.cells #[] 5)).drew.heap[w.heap.size]? = some (.cells #[] 67)) := ⟨(Below.heap_alloc (w.alloc (.cells #[] 67)) (.cells #[] 5) w.heap.size (by simp)).trans (new_blk _ _)⟩
  go_region_held3 (fun w' => w'.cell? ⟨p, 0, none⟩ = some (.slice (some ⟨gb, 0, none⟩) (n * 64) cb) ∧ w'.cell? ⟨p, 1, none⟩ = some (.slice A1 L.length c1))
    (first | assumption | exact ⟨hd0, hd1⟩ | exact ⟨h0b, h1b⟩ | exact ⟨h0c, h1c⟩ | (constructor <;> (first | assumption | (simp [*, World.cell?_alloc_some]; done))))
    (first
      | (refine Kd.R_append_rows_step (Kd.int .u8) (w0 := w) w.heap.size (by simp [Region.wanted]) (.tmp 3) (.tmp 7) 31 5 (.int .u8 0) 1 rfl Try.underlying31 info5 rfl (by decide) (by omega) _ [] B _ _ _ (fun _ => True) (fun _ => False) rfl rfl (by first | exact R_of_blk k1.out (Nat.le_refl _) | exact R_of_blk k2.out (Nat.le_refl _) | exact R_of_blk k3.out (by omega)) (by first | exact Kd.C_below HRD.out b1.out | exact Kd.C_below HRD.out b2.out | exact Kd.C_below HRD.out b3.out) (fun _ _ h => h) (fun _ h => h.elim) (fun _ _ => trivial) (by first | exact b1.out | exact b2.out | exact b3.out) (by first | exact b1.out.size | exact b2.out.size | exact b3.out.size) (by first | (simp; done) | (simp; omega)) ?_
         intro v8 w5 ho hb hg hat
         (try (have hg2 : ((w.alloc (.cells #[] 5)).alloc (.cells #[] 67)).drew.grownBy w5 (some w.heap.size) := hg; have k9a : Aside0 (w5.heap[w.heap.size + 1]? = some (.cells #[] 67)) := ⟨(grown_blk hg2 (by rw [s2]; omega) (by simp)).trans k2'.out⟩; clear hg2))
         (try (have hg3 : ((w.alloc (.cells #[] 67)).alloc (.cells #[] 5)).drew.grownBy w5 (some (w.heap.size + 1)) := hg; have k9b : Aside0 (w5.heap[w.heap.size]? = some (.cells #[] 67)) := ⟨(grown_blk hg3 (by rw [s3]; omega) (by simp)).trans k3'.out⟩; clear hg3))
         rw [List.nil_append] at ho
         obtain ⟨gB, cB, rfl, hgB, hcB, hOB⟩ := own_form ho (by rw [HN.out]; omega)
         rw [HN.out] at hcB ⊢
         have HOB := Aside0.mk hOB
         have HB5 := Aside0.mk hb
         (try (have hne2 : Aside0 (gB ≠ w.heap.size + 1) := ⟨ne_of_hat hat (by omega) (by first | (rw [s2]; omega) | (rw [s3]; omega))⟩))
         (try (have hne3 : Aside0 (gB ≠ w.heap.size) := ⟨ne_of_hat hat (by omega) (by first | (rw [s2]; omega) | (rw [s3]; omega))⟩))
         have h0b : w5.cell? ⟨p, 0, none⟩ = some (.slice (some ⟨gb, 0, none⟩) (n * 64) cb) := (HB5.out.cell (p := ⟨p, 0, none⟩) hps).trans hp0
         have h1b : w5.cell? ⟨p, 1, none⟩ = some (.slice A1 L.length c1) := (HB5.out.cell (p := ⟨p, 1, none⟩) hps).trans hp1
         clear ho hOB hb hg hat)
      | (refine Kd.R_append_rows_step (raw 2) (w0 := w) w.heap.size (by simp [Region.wanted]) (.tmp 9) (.tmp 13) 56 67 (.agg #[.int .i64 0, .slice none 0 0]) 32 rfl Try.underlying56 infoRW rfl (by decide) (by omega) _ [] news _ _ _ (fun _ => True) (fun _ => False) rfl rfl (by first | exact R_of_blk (new_blk _ _) HB5.out.size | exact R_of_blk k9a.out (by omega) | exact R_of_blk k9b.out (Nat.le_refl _)) (by first | exact Kd.C_below HNR.out HB5.out | exact Kd.C_below HNR.out (HB5.out.alloc HB5.out.size _)) (fun _ _ h => h) (fun _ h => h.elim) (fun _ _ => trivial) (by first | exact HB5.out | exact HB5.out.alloc HB5.out.size _) (by first | exact HB5.out.size | exact (HB5.out.alloc HB5.out.size _).size) (by have := HL0.out; have := HNL.out; first | (simp; done) | (simp; omega)) ?_
         intro v14 w6 ho hb hg hat
         have h0c : w6.cell? ⟨p, 0, none⟩ = some (.slice (some ⟨gb, 0, none⟩) (n * 64) cb) := (hb.cell (p := ⟨p, 0, none⟩) hps).trans hp0
         have h1c : w6.cell? ⟨p, 1, none⟩ = some (.slice A1 L.length c1) := (hb.cell (p := ⟨p, 1, none⟩) hps).trans hp1
         have hgl := HOB.out.lt
         have HOB6 : Aside0 (OwnBy w6 gB cB B) := ⟨by
           first
             | exact HOB.out.same (grown_blk (show w5.grownBy w6 (some (w.heap.size + 1)) from hg) hgl (fun e => hne2.out (Option.some.inj e).symm))
             | exact HOB.out.same (grown_blk (show w5.grownBy w6 (some w.heap.size) from hg) hgl (fun e => hne3.out (Option.some.inj e).symm))
             | exact HOB.out.same ((grown_blk (show (w5.alloc (.cells #[] 67)).grownBy w6 (some w5.heap.size) from hg) (by simp; omega) (fun e => Nat.ne_of_gt hgl (Option.some.inj e))).trans (Below.heap_alloc w5 _ gB hgl))⟩
         have HB6 := Aside0.mk hb
         rw [List.nil_append] at ho
         have HO14 := Aside0.mk ho
         obtain ⟨A14, c14, rfl⟩ := Kd.R_slice ho
         clear ho hb hg hat hgl)
      | fail)
  all_goals go_wp2
  all_goals go_ret
  all_goals (refine ⟨w6.heap.size, rfl, ?_⟩; have q := DevNew.twin H.out HB6.out (by decide) (by decide) HOB6.out hgB (Below.refl _ _) ((OwnRow_of_raw HO14.out HNL.out HNF.out).lower (Nat.zero_le _)) (Below.refl _ _) (Below.refl _ _) (fun k hk => Kd.R_base HO14.out k hk); rw [HN.out] at q; exact q)
theorem ref_bytes {w : World} {S N : Nat → Prop} {p : Nat} {B : List Int} {L : List (Int × List Int)} (h : Dev 58 67 w S N p B L) {n : Nat} (hn : B.length = n * 64) (h4 : 4 ≤ n) (hm : n ≤ 1024) (hl : L.length < 4294967296) (hw : Waits n L) :
    Calls Try.prog 32 #[.pointer (some ⟨p, 0, none⟩)] w fun e w' =>
      ∃ g cap, e = .returned (.slice (some ⟨g, 0, none⟩) (aft (fun _ => true) L B L.length).length cap) ∧ (aft (fun _ => true) L B L.length).length ≤ cap ∧ w.heap.size ≤ g ∧ OwnBy w' g cap (aft (fun _ => true) L B L.length) ∧ Fr (fun _ => False) w w' := by
  have ht := Aside0.mk (ref_twin h hn h4 hm hl)
  have HN := Aside0.mk hn
  have HW := Aside0.mk hw
  clear h hn hw hl
  go_enter Try.func32, Try.ntmps32
  go_wp2_with (first
    | (go_at_call 34; refine ht.out.mono ?_; rintro e w1 ⟨p2, rfl, S1, N1, hD, hF, hS, hN⟩; have HD := Aside0.mk hD; have HF := Aside0.mk hF; have HS := Aside0.mk hS; clear hD hF hS hN)
    | (go_at_call 14; refine (ref_sync HD.out HN.out h4 hm HW.out).mono ?_; rintro e w2 ⟨rfl, S2, N2, ⟨g2, c2, v2, hD2⟩, hF2, hS2, hN2⟩; have h0 := cell_of_blk hD2.cell (j := 0) rfl; have HD2 := Aside0.mk hD2; have HF2 := Aside0.mk hF2; have HS2 := Aside0.mk hS2; clear hD2 hF2 hS2 hN2))
  go_ret
  refine ⟨g2, c2, rfl, ?_, ?_, HD2.out.own, ?_⟩
  · obtain ⟨_, _, _, h2, _⟩ := HD2.out.own
    exact h2
  · rcases HS2.out _ HD2.out.sb with hq | hq
    · exact HS.out _ hq
    · exact Nat.le_trans HF.out.size hq
  · exact ⟨HF2.out.os.trans HF.out.os, HF2.out.tape.trans HF.out.tape, HF2.out.output.trans HF.out.output, Nat.le_trans HF.out.size HF2.out.size, fun k hk _ => (HF2.out.block k (Nat.lt_of_lt_of_le hk HF.out.size) (fun hq => by have := HS.out _ hq; omega)).trans (HF.out.block k hk (fun hq => hq))⟩
end Go.Proofs.Ytkpfhlfbhceebaa.PAll
