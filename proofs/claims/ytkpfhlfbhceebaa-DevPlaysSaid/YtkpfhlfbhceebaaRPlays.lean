/- DevPlays walked: any calls. -/
import Derived.Test.YtkpfhlfbhceebaaROf
namespace Go.Proofs.Ytkpfhlfbhceebaa.PAll
open Go.Proofs.Ytkpfhlfbhceebaa.Help
open Go.RowKit Go.Proofs.YtkpfhlfbhceebaaW.PrintWords Go.Proofs.YtkpfhlfbhceebaaW.PrintLast Go.Proofs.YtkpfhlfbhceebaaW.PrintMore
set_option linter.unusedVariables false
set_option linter.unusedSimpArgs false
/-- What a write answers, and what waits behind it. -/
def werr (n : Nat) (j : Int) (l : Nat) : Int := if (0 ≤ j ∧ j < n) ∧ l = 64 then 0 else 1
def wL (n : Nat) (j : Int) (bs : List Int) (L : List (Int × List Int)) : List (Int × List Int) := if (0 ≤ j ∧ j < n) ∧ bs.length = 64 then L ++ [(j, bs)] else L
theorem wL_length (n : Nat) (j : Int) (bs : List Int) (L : List (Int × List Int)) : (wL n j bs L).length ≤ L.length + 1 := by
  unfold wL
  split
  · rw [List.length_append]; simp
  · omega
theorem Mix.writeX {w0 W : World} {D : Nat → Option MSt} {R : List (Nat × Obj)} (h : Mix w0 W D R) {i p n : Nat} {B : List Int} {L : List (Int × List Int)} (hi : D i = some ⟨false, p, n, B, L⟩) (hl : L.length < 4294967296) {j : Int} {A : Option Addr} {c : Nat} {bs : List Int} (hr : Kd.C (Kd.int .u8) W A bs.length bs) (hc : bs.length ≤ c) :
    Calls Try.prog 11 #[.pointer (some ⟨p, 0, none⟩), .int .i64 j, .slice A bs.length c] W fun e w' => e = .returned (.int .i64 (werr n j bs.length)) ∧ Mix w0 w' (updM D i ⟨false, p, n, B, wL n j bs L⟩) R := by
  unfold werr wL
  by_cases hj : (0 ≤ j ∧ j < n) ∧ bs.length = 64
  · rw [if_pos hj, if_pos hj]
    exact h.write hi hl hj.1.1 hj.1.2 hr hc hj.2
  · rw [if_neg hj, if_neg hj]
    refine (h.write_bad hi (c := c) hr.2.1 (by omega)).mono ?_
    rintro e w' ⟨rfl, rfl⟩
    exact ⟨rfl, by rw [updM_self hi]; exact h⟩
theorem Mix.rwriteX {w0 W : World} {D : Nat → Option MSt} {R : List (Nat × Obj)} (h : Mix w0 W D R) {i p n : Nat} {B : List Int} {L : List (Int × List Int)} (hi : D i = some ⟨true, p, n, B, L⟩) (hl : L.length < 4294967296) {j : Int} {A : Option Addr} {c : Nat} {bs : List Int} (hr : Kd.C (Kd.int .u8) W A bs.length bs) (hc : bs.length ≤ c) :
    Calls Try.prog 12 #[.pointer (some ⟨p, 0, none⟩), .int .i64 j, .slice A bs.length c] W fun e w' => e = .returned (.int .i64 (werr n j bs.length)) ∧ Mix w0 w' (updM D i ⟨true, p, n, B, wL n j bs L⟩) R := by
  unfold werr wL
  by_cases hj : (0 ≤ j ∧ j < n) ∧ bs.length = 64
  · rw [if_pos hj, if_pos hj]
    exact h.rwrite hi hl hj.1.1 hj.1.2 hr hc hj.2
  · rw [if_neg hj, if_neg hj]
    refine (h.rwrite_bad hi (c := c) hr.2.1 (by omega)).mono ?_
    rintro e w' ⟨rfl, rfl⟩
    exact ⟨rfl, by rw [updM_self hi]; exact h⟩
/-- One call, as it lies in memory. -/
def ActAt (w : World) (ad : Addr) (i : Nat) (op I : Int) (Ad : Option Addr) (dc : Nat) (data : List Int) (Ak : Option Addr) (kc : Nat) (keep : List Bool) : Prop :=
  w.cell? (ad.add (i * 4)) = some (.int .i64 op) ∧ w.cell? (ad.add (i * 4 + 1)) = some (.int .i64 I) ∧ w.cell? (ad.add (i * 4 + 2)) = some (.slice Ad data.length dc) ∧ w.cell? (ad.add (i * 4 + 3)) = some (.slice Ak keep.length kc) ∧
    Kd.C (Kd.int .u8) w Ad data.length data ∧ data.length ≤ dc ∧ Kd.C Kd.bool w Ak keep.length keep
def ActRow (w : World) (A : Option Addr) (n : Nat) : Prop :=
  n ≤ 9223372036854775807 ∧ ∀ i, i < n → ∃ ad op I Ad dc data Ak kc keep, A = some ad ∧ ActAt w ad i op I Ad dc data Ak kc keep
theorem ActAt.later {w w' : World} {ad : Addr} {i : Nat} {op I : Int} {Ad : Option Addr} {dc : Nat} {data : List Int} {Ak : Option Addr} {kc : Nat} {keep : List Bool} (h : ActAt w ad i op I Ad dc data Ak kc keep) (hB : Below w.heap.size w w') : ActAt w' ad i op I Ad dc data Ak kc keep := by
  obtain ⟨h0, h1, h2, h3, h4, h5, h6⟩ := h
  exact ⟨(hB.cell (World.block_lt_of_cell? w _ h0)).trans h0, (hB.cell (World.block_lt_of_cell? w _ h1)).trans h1, (hB.cell (World.block_lt_of_cell? w _ h2)).trans h2, (hB.cell (World.block_lt_of_cell? w _ h3)).trans h3, C_later h4 hB, h5, C_later_bool h6 hB⟩
theorem add_add' (a : Addr) (i j : Nat) : (a.add i).add j = a.add (i + j) := by
  unfold Addr.add
  by_cases hi : i = 0
  · subst hi; simp
  · by_cases hj : j = 0
    · subst hj; simp [hi]
    · simp [hi, hj, Nat.add_assoc]
set_option maxRecDepth 100000 in
set_option maxHeartbeats 4000000 in
theorem dev_plays (n0 : Int) (A0 : Option Addr) (c0 n : Nat) (w : World) (w0 : (Lit.int .i64 n0).wf = true) (hr0 : ActRow w A0 n) :
    Calls Try.prog 3 #[.int .i64 n0, .slice A0 n c0] w fun e w' => e = .returned (.bool true) ∧ Below w.heap.size w w' := by
  have HR0 := Aside0.mk hr0
  have hl0 : n ≤ 9223372036854775807 := hr0.1
  clear hr0
  by_cases hbig : 40 < n ∨ (64 < n0 ∧ n0 ≤ 1024)
  · go_enter Try.func3, Try.ntmps3
    go_wp2_with (go_at_call 8; refine (dev_known _).mono ?_; rintro e w1 ⟨rfl, hB⟩)
    all_goals first | (exfalso; omega) | skip
    all_goals go_ret
    all_goals exact ⟨rfl, hB⟩
  · by_cases hbad : n0 < 4 ∨ 1024 < n0
    · go_enter Try.func3, Try.ntmps3
      go_wp2_with (first
        | (go_at_call 8; refine (dev_known _).mono ?_; rintro e w1 ⟨rfl, hB⟩; have HB := Aside0.mk hB; clear hB)
        | (go_at_call 9; refine (dev_new_bad hbad).mono ?_; rintro e w2 ⟨rfl, rfl⟩)
        | (go_at_call 10; refine (ref_new_bad hbad).mono ?_; rintro e w2 ⟨rfl, rfl⟩)
        | fail)
      all_goals first | (exfalso; omega) | skip
      all_goals go_ret
      all_goals exact ⟨rfl, HB.out⟩
    · obtain ⟨nb, rfl⟩ := Int.eq_ofNat_of_zero_le (show 0 ≤ n0 by omega)
      have h4 : 4 ≤ nb := by omega
      have hm : nb ≤ 64 := by omega
      have hn40 : n ≤ 40 := by omega
      have hm' : nb ≤ 1024 := by omega
      clear hbig hbad
      go_enter Try.func3, Try.ntmps3
      go_wp2_with (first
        | (go_at_call 8; refine (dev_known _).mono ?_; rintro e w1 ⟨rfl, hB⟩; have HX : Aside0 (Mix w w1 noMix []) := ⟨Mix.none_ hB⟩; clear hB)
        | (go_at_call 9; refine (HX.out.new 0 rfl h4 hm').mono ?_; rintro e w2 ⟨p0, rfl, h⟩; replace HX := Aside0.mk h; clear h)
        | (go_at_call 10; refine (HX.out.rnew 1 rfl h4 hm').mono ?_; rintro e w3 ⟨pm, rfl, h⟩; replace HX := Aside0.mk h; clear h)
        | fail)
      all_goals first | (exfalso; omega) | skip
      go_loopg [5, 9] n (fun gg s5 s9 wr => ∃ (kk p : Nat) (B : List Int) (L : List (Int × List Int)) (R : List (Nat × Obj)), kk ≤ n ∧ n - kk ≤ gg ∧ s5 = .pointer (some ⟨p, 0, none⟩) ∧ s9 = .int .i64 kk ∧ L.length ≤ kk ∧ Aside0 (Mix w wr (updM (updM noMix 0 ⟨false, p, nb, B, L⟩) 1 ⟨true, pm, nb, B, L⟩) R))
      case atStart => exact ⟨0, p0, _, [], [], Nat.zero_le _, by omega, rfl, rfl, Nat.le_refl _, HX⟩
      case round =>
        obtain ⟨kk, p, B, L, R, hkk, hgg, rfl, rfl, hLk, HL⟩ := hrel
        clear HX
        by_cases hlt : kk < n
        · obtain ⟨ad, op, I, Ad, dc, data, Ak, kc, keep, rfl, hact⟩ := HR0.out.2 kk hlt
          have HAd : Aside0 (Kd.C (Kd.int .u8) w Ad data.length data) := ⟨hact.2.2.2.2.1⟩
          have HAk : Aside0 (Kd.C Kd.bool w Ak keep.length keep) := ⟨hact.2.2.2.2.2.2⟩
          obtain ⟨h0, h1, h2, h3, h4', h5, h6⟩ := hact.later HL.out.under
          have hdl : data.length ≤ 9223372036854775807 := h4'.2.1
          have hkl : keep.length ≤ 9223372036854775807 := h6.2.1
          have h1' : wr.cell? ⟨(ad.add (kk * 4)).block, (ad.add (kk * 4)).off + 1, none⟩ = some (.int .i64 I) := by have t := h1; rw [← add_add'] at t; exact t
          have h2' : wr.cell? ⟨(ad.add (kk * 4)).block, (ad.add (kk * 4)).off + 2, none⟩ = some (.slice Ad data.length dc) := by have t := h2; rw [← add_add'] at t; exact t
          have h3' : wr.cell? ⟨(ad.add (kk * 4)).block, (ad.add (kk * 4)).off + 3, none⟩ = some (.slice Ak keep.length kc) := by have t := h3; rw [← add_add'] at t; exact t
          clear hact h4' h6 h1 h2 h3
          go_upto_region 15 with fail
          have hbel : Below wr.heap.size wr (wr.alloc (.cells #[.int .i64 op, .int .i64 I, .slice Ad data.length dc, .slice Ak keep.length kc] 34)) := (Fr.alloc (S := fun _ => False) wr _).to_below
          have HX := Aside0.mk (HL.out.row hbel (new_blk _ _) (Nat.le_refl _))
          clear hbel HL h0 h1' h2' h3'
          obtain ⟨W1, hW1⟩ : ∃ W1, W1 = wr.alloc (.cells #[.int .i64 op, .int .i64 I, .slice Ad data.length dc, .slice Ak keep.length kc] 34) := ⟨_, rfl⟩
          rw [← hW1] at HX ⊢
          obtain ⟨q, hq⟩ : ∃ q, q = wr.heap.size := ⟨_, rfl⟩
          rw [← hq] at HX ⊢
          clear hW1 hq
          (try clear hz0 hz1 hz2 hz3); have hz0 := cell_of_blk (HX.out.kept (List.Mem.head _)) (j := 0) rfl; have hz1 := cell_of_blk (HX.out.kept (List.Mem.head _)) (j := 1) rfl; have hz2 := cell_of_blk (HX.out.kept (List.Mem.head _)) (j := 2) rfl; have hz3 := cell_of_blk (HX.out.kept (List.Mem.head _)) (j := 3) rfl
          by_cases hlong : 200 < data.length ∨ 100 < keep.length
          · go_wp2
            all_goals first | (exfalso; omega) | skip
            all_goals go_ret
            all_goals exact ⟨rfl, HX.out.under⟩
          · have hd200 : data.length ≤ 200 := by omega
            have hk100 : keep.length ≤ 100 := by omega
            have hwk : IntKind.i64.wrap ((kk : Int) + 1) = (kk : Int) + 1 := wrapI (by omega) (by omega)
            clear hlong
            by_cases hop1 : op = 1
            · subst hop1
              go_upto_region 19 with fail
              have HX0 := Aside0.mk (HX.out.below (W' := W1.drew) ⟨rfl, rfl, rfl, Nat.le_refl _, fun _ _ => rfl⟩)
              clear HX
              have HX := HX0
              clear HX0
              (try clear hz0 hz1 hz2 hz3); have hz0 := cell_of_blk (HX.out.kept (List.Mem.head _)) (j := 0) rfl; have hz1 := cell_of_blk (HX.out.kept (List.Mem.head _)) (j := 1) rfl; have hz2 := cell_of_blk (HX.out.kept (List.Mem.head _)) (j := 2) rfl; have hz3 := cell_of_blk (HX.out.kept (List.Mem.head _)) (j := 3) rfl
              go_region_held3 (fun w' => w'.cell? ⟨q, 1, none⟩ = some (.int .i64 I) ∧ w'.cell? ⟨q, 2, none⟩ = some (.slice Ad data.length dc))
                (first | assumption | exact ⟨hz1, hz2⟩)
                (first
                  | (go_at_call 11; have hc := HX.out.writeX (i := 0) rfl (by omega) (j := I) (C_later HAd.out HX.out.under) h5; (with_reducible refine hc.mono ?_); clear hc; rintro e w6 ⟨rfl, h⟩; replace HX := Aside0.mk h; clear h; (try clear hz0 hz1 hz2 hz3); have hz0 := cell_of_blk (HX.out.kept (List.Mem.head _)) (j := 0) rfl; have hz1 := cell_of_blk (HX.out.kept (List.Mem.head _)) (j := 1) rfl; have hz2 := cell_of_blk (HX.out.kept (List.Mem.head _)) (j := 2) rfl; have hz3 := cell_of_blk (HX.out.kept (List.Mem.head _)) (j := 3) rfl)
                  | (go_at_call 12; have hc := HX.out.rwriteX (i := 1) rfl (by omega) (j := I) (C_later HAd.out HX.out.under) h5; (with_reducible refine hc.mono ?_); clear hc; rintro e w7 ⟨rfl, h⟩; replace HX := Aside0.mk h; clear h; (try clear hz0 hz1 hz2 hz3); have hz0 := cell_of_blk (HX.out.kept (List.Mem.head _)) (j := 0) rfl; have hz1 := cell_of_blk (HX.out.kept (List.Mem.head _)) (j := 1) rfl; have hz2 := cell_of_blk (HX.out.kept (List.Mem.head _)) (j := 2) rfl; have hz3 := cell_of_blk (HX.out.kept (List.Mem.head _)) (j := 3) rfl)
                  | fail)
              go_upto_region 34 with fail
              have HX2 := Aside0.mk (HX.out.two (i := 0) (j := 1) (by decide) rfl rfl)
              clear HX
              have HX := HX2
              clear HX2
              obtain ⟨L2, hL2⟩ : ∃ L', L' = wL nb I data L := ⟨_, rfl⟩
              obtain ⟨B2, hB2⟩ : ∃ B', B' = B := ⟨_, rfl⟩
              have hLk2 : L2.length ≤ kk + 1 := by rw [hL2]; have := wL_length nb I data L; omega
              rw [← hL2, ← hB2] at HX
              clear hL2 hB2
              have hl2 : L2.length < 4294967296 := by omega
              (try clear hz0 hz1 hz2 hz3); have hz0 := cell_of_blk (HX.out.kept (List.Mem.head _)) (j := 0) rfl; have hz1 := cell_of_blk (HX.out.kept (List.Mem.head _)) (j := 1) rfl; have hz2 := cell_of_blk (HX.out.kept (List.Mem.head _)) (j := 2) rfl; have hz3 := cell_of_blk (HX.out.kept (List.Mem.head _)) (j := 3) rfl
              go_wp2_with (first
                | (go_at_call 19; refine (HX.out.readX (i := 0) rfl hl2 I).mono ?_; rintro e w4 ⟨vx, rfl, hB, hvx⟩; replace HX := Aside0.mk (HX.out.below hB); have HVX := Aside0.mk hvx; clear hB hvx; (try clear hz0 hz1 hz2 hz3); have hz0 := cell_of_blk (HX.out.kept (List.Mem.head _)) (j := 0) rfl; have hz1 := cell_of_blk (HX.out.kept (List.Mem.head _)) (j := 1) rfl; have hz2 := cell_of_blk (HX.out.kept (List.Mem.head _)) (j := 2) rfl; have hz3 := cell_of_blk (HX.out.kept (List.Mem.head _)) (j := 3) rfl)
                | (go_at_call 20; refine (HX.out.rreadX (i := 1) rfl hl2 I).mono ?_; rintro e w5 ⟨vy, rfl, hB, hvy⟩; replace HX := Aside0.mk (HX.out.below hB); have hx5 := HVX.out _ hB; have hy5 := hvy _ (Below.refl _ _); clear hB hvy; (try clear hz0 hz1 hz2 hz3); have hz0 := cell_of_blk (HX.out.kept (List.Mem.head _)) (j := 0) rfl; have hz1 := cell_of_blk (HX.out.kept (List.Mem.head _)) (j := 1) rfl; have hz2 := cell_of_blk (HX.out.kept (List.Mem.head _)) (j := 2) rfl; have hz3 := cell_of_blk (HX.out.kept (List.Mem.head _)) (j := 3) rfl)
                | (go_at_call 21; refine (mix_same HX.out (i := 0) (j := 1) rfl rfl hl2).mono ?_; rintro e wB ⟨rfl, hBF⟩; replace HX := Aside0.mk (HX.out.below hBF); clear hBF)
                | fail)
              all_goals go_roundg (n - (kk + 1))
              all_goals first
                | omega
                | exact ⟨kk + 1, _, B2, L2, _, by omega, by omega, rfl, by go_num, hLk2, HX⟩
            · by_cases hop2 : op = 2
              · subst hop2
                go_upto_region 34 with (first
                  | (go_at_call 13; refine (HX.out.sync (i := 0) rfl).mono ?_; rintro e w6 ⟨rfl, h⟩; replace HX := Aside0.mk h; clear h; (try clear hz0 hz1 hz2 hz3); have hz0 := cell_of_blk (HX.out.kept (List.Mem.head _)) (j := 0) rfl; have hz1 := cell_of_blk (HX.out.kept (List.Mem.head _)) (j := 1) rfl; have hz2 := cell_of_blk (HX.out.kept (List.Mem.head _)) (j := 2) rfl; have hz3 := cell_of_blk (HX.out.kept (List.Mem.head _)) (j := 3) rfl)
                  | (go_at_call 14; refine (HX.out.rsync (i := 1) rfl).mono ?_; rintro e w7 ⟨rfl, h⟩; replace HX := Aside0.mk h; clear h; (try clear hz0 hz1 hz2 hz3); have hz0 := cell_of_blk (HX.out.kept (List.Mem.head _)) (j := 0) rfl; have hz1 := cell_of_blk (HX.out.kept (List.Mem.head _)) (j := 1) rfl; have hz2 := cell_of_blk (HX.out.kept (List.Mem.head _)) (j := 2) rfl; have hz3 := cell_of_blk (HX.out.kept (List.Mem.head _)) (j := 3) rfl)
                  | fail)
                have HX2 := Aside0.mk (HX.out.two (i := 0) (j := 1) (by decide) rfl rfl)
                clear HX
                have HX := HX2
                clear HX2
                obtain ⟨L2, hL2⟩ : ∃ L', L' = ([] : List (Int × List Int)) := ⟨_, rfl⟩
                obtain ⟨B2, hB2⟩ : ∃ B', B' = aft (fun _ => true) L B L.length := ⟨_, rfl⟩
                have hLk2 : L2.length ≤ kk + 1 := by rw [hL2]; exact Nat.zero_le _
                rw [← hL2, ← hB2] at HX
                clear hL2 hB2
                have hl2 : L2.length < 4294967296 := by omega
                (try clear hz0 hz1 hz2 hz3); have hz0 := cell_of_blk (HX.out.kept (List.Mem.head _)) (j := 0) rfl; have hz1 := cell_of_blk (HX.out.kept (List.Mem.head _)) (j := 1) rfl; have hz2 := cell_of_blk (HX.out.kept (List.Mem.head _)) (j := 2) rfl; have hz3 := cell_of_blk (HX.out.kept (List.Mem.head _)) (j := 3) rfl
                go_wp2_with (first
                  | (go_at_call 19; refine (HX.out.readX (i := 0) rfl hl2 I).mono ?_; rintro e w4 ⟨vx, rfl, hB, hvx⟩; replace HX := Aside0.mk (HX.out.below hB); have HVX := Aside0.mk hvx; clear hB hvx; (try clear hz0 hz1 hz2 hz3); have hz0 := cell_of_blk (HX.out.kept (List.Mem.head _)) (j := 0) rfl; have hz1 := cell_of_blk (HX.out.kept (List.Mem.head _)) (j := 1) rfl; have hz2 := cell_of_blk (HX.out.kept (List.Mem.head _)) (j := 2) rfl; have hz3 := cell_of_blk (HX.out.kept (List.Mem.head _)) (j := 3) rfl)
                  | (go_at_call 20; refine (HX.out.rreadX (i := 1) rfl hl2 I).mono ?_; rintro e w5 ⟨vy, rfl, hB, hvy⟩; replace HX := Aside0.mk (HX.out.below hB); have hx5 := HVX.out _ hB; have hy5 := hvy _ (Below.refl _ _); clear hB hvy; (try clear hz0 hz1 hz2 hz3); have hz0 := cell_of_blk (HX.out.kept (List.Mem.head _)) (j := 0) rfl; have hz1 := cell_of_blk (HX.out.kept (List.Mem.head _)) (j := 1) rfl; have hz2 := cell_of_blk (HX.out.kept (List.Mem.head _)) (j := 2) rfl; have hz3 := cell_of_blk (HX.out.kept (List.Mem.head _)) (j := 3) rfl)
                  | (go_at_call 21; refine (mix_same HX.out (i := 0) (j := 1) rfl rfl hl2).mono ?_; rintro e wB ⟨rfl, hBF⟩; replace HX := Aside0.mk (HX.out.below hBF); clear hBF)
                  | fail)
                all_goals go_roundg (n - (kk + 1))
                all_goals first
                  | omega
                  | exact ⟨kk + 1, _, B2, L2, _, by omega, by omega, rfl, by go_num, hLk2, HX⟩
              · by_cases hop3 : op = 3
                · subst hop3
                  go_upto_region 34 with (first
                    | (go_at_call 15; refine (HX.out.crash (i := 0) rfl (by omega) (c := kc) HAk.out).mono ?_; rintro e w6 ⟨rfl, h⟩; replace HX := Aside0.mk h; clear h; (try clear hz0 hz1 hz2 hz3); have hz0 := cell_of_blk (HX.out.kept (List.Mem.head _)) (j := 0) rfl; have hz1 := cell_of_blk (HX.out.kept (List.Mem.head _)) (j := 1) rfl; have hz2 := cell_of_blk (HX.out.kept (List.Mem.head _)) (j := 2) rfl; have hz3 := cell_of_blk (HX.out.kept (List.Mem.head _)) (j := 3) rfl)
                    | (go_at_call 16; refine (HX.out.rcrash (i := 1) rfl (by omega) (c := kc) HAk.out).mono ?_; rintro e w7 ⟨rfl, h⟩; replace HX := Aside0.mk h; clear h; (try clear hz0 hz1 hz2 hz3); have hz0 := cell_of_blk (HX.out.kept (List.Mem.head _)) (j := 0) rfl; have hz1 := cell_of_blk (HX.out.kept (List.Mem.head _)) (j := 1) rfl; have hz2 := cell_of_blk (HX.out.kept (List.Mem.head _)) (j := 2) rfl; have hz3 := cell_of_blk (HX.out.kept (List.Mem.head _)) (j := 3) rfl)
                    | fail)
                  have HX2 := Aside0.mk (HX.out.two (i := 0) (j := 1) (by decide) rfl rfl)
                  clear HX
                  have HX := HX2
                  clear HX2
                  obtain ⟨L2, hL2⟩ : ∃ L', L' = ([] : List (Int × List Int)) := ⟨_, rfl⟩
                  obtain ⟨B2, hB2⟩ : ∃ B', B' = aft (fun k => keep.getD k false) L B L.length := ⟨_, rfl⟩
                  have hLk2 : L2.length ≤ kk + 1 := by rw [hL2]; exact Nat.zero_le _
                  rw [← hL2, ← hB2] at HX
                  clear hL2 hB2
                  have hl2 : L2.length < 4294967296 := by omega
                  (try clear hz0 hz1 hz2 hz3); have hz0 := cell_of_blk (HX.out.kept (List.Mem.head _)) (j := 0) rfl; have hz1 := cell_of_blk (HX.out.kept (List.Mem.head _)) (j := 1) rfl; have hz2 := cell_of_blk (HX.out.kept (List.Mem.head _)) (j := 2) rfl; have hz3 := cell_of_blk (HX.out.kept (List.Mem.head _)) (j := 3) rfl
                  go_wp2_with (first
                    | (go_at_call 19; refine (HX.out.readX (i := 0) rfl hl2 I).mono ?_; rintro e w4 ⟨vx, rfl, hB, hvx⟩; replace HX := Aside0.mk (HX.out.below hB); have HVX := Aside0.mk hvx; clear hB hvx; (try clear hz0 hz1 hz2 hz3); have hz0 := cell_of_blk (HX.out.kept (List.Mem.head _)) (j := 0) rfl; have hz1 := cell_of_blk (HX.out.kept (List.Mem.head _)) (j := 1) rfl; have hz2 := cell_of_blk (HX.out.kept (List.Mem.head _)) (j := 2) rfl; have hz3 := cell_of_blk (HX.out.kept (List.Mem.head _)) (j := 3) rfl)
                    | (go_at_call 20; refine (HX.out.rreadX (i := 1) rfl hl2 I).mono ?_; rintro e w5 ⟨vy, rfl, hB, hvy⟩; replace HX := Aside0.mk (HX.out.below hB); have hx5 := HVX.out _ hB; have hy5 := hvy _ (Below.refl _ _); clear hB hvy; (try clear hz0 hz1 hz2 hz3); have hz0 := cell_of_blk (HX.out.kept (List.Mem.head _)) (j := 0) rfl; have hz1 := cell_of_blk (HX.out.kept (List.Mem.head _)) (j := 1) rfl; have hz2 := cell_of_blk (HX.out.kept (List.Mem.head _)) (j := 2) rfl; have hz3 := cell_of_blk (HX.out.kept (List.Mem.head _)) (j := 3) rfl)
                    | (go_at_call 21; refine (mix_same HX.out (i := 0) (j := 1) rfl rfl hl2).mono ?_; rintro e wB ⟨rfl, hBF⟩; replace HX := Aside0.mk (HX.out.below hBF); clear hBF)
                    | fail)
                  all_goals go_roundg (n - (kk + 1))
                  all_goals first
                    | omega
                    | exact ⟨kk + 1, _, B2, L2, _, by omega, by omega, rfl, by go_num, hLk2, HX⟩
                · by_cases hop4 : op = 4
                  · subst hop4
                    go_upto_region 34 with (first
                      | (go_at_call 17; refine (HX.out.twin (i := 0) rfl (by omega) 2 rfl).mono ?_; rintro e w6 ⟨p2, rfl, h⟩; replace HX := Aside0.mk h; clear h; (try clear hz0 hz1 hz2 hz3); have hz0 := cell_of_blk (HX.out.kept (List.Mem.head _)) (j := 0) rfl; have hz1 := cell_of_blk (HX.out.kept (List.Mem.head _)) (j := 1) rfl; have hz2 := cell_of_blk (HX.out.kept (List.Mem.head _)) (j := 2) rfl; have hz3 := cell_of_blk (HX.out.kept (List.Mem.head _)) (j := 3) rfl)
                      | (go_at_call 18; refine (full_ok _).mono ?_; rintro e w7 ⟨gF, cF, rfl, hgF, hcF, hOF, hBF⟩; replace HX := Aside0.mk (HX.out.below hBF); have HF := Aside0.mk hOF; clear hOF hBF hgF; (try clear hz0 hz1 hz2 hz3); have hz0 := cell_of_blk (HX.out.kept (List.Mem.head _)) (j := 0) rfl; have hz1 := cell_of_blk (HX.out.kept (List.Mem.head _)) (j := 1) rfl; have hz2 := cell_of_blk (HX.out.kept (List.Mem.head _)) (j := 2) rfl; have hz3 := cell_of_blk (HX.out.kept (List.Mem.head _)) (j := 3) rfl)
                      | (go_at_call 11; have hc := HX.out.write (i := 0) rfl (by omega) (j := 0) (by omega) (by omega) HF.out.reads (by rw [List.length_replicate]; exact hcF) List.length_replicate; rw [List.length_replicate] at hc; (with_reducible refine hc.mono ?_); clear hc; rintro e w8 ⟨rfl, h⟩; replace HX := Aside0.mk h; clear h HF; (try clear hz0 hz1 hz2 hz3); have hz0 := cell_of_blk (HX.out.kept (List.Mem.head _)) (j := 0) rfl; have hz1 := cell_of_blk (HX.out.kept (List.Mem.head _)) (j := 1) rfl; have hz2 := cell_of_blk (HX.out.kept (List.Mem.head _)) (j := 2) rfl; have hz3 := cell_of_blk (HX.out.kept (List.Mem.head _)) (j := 3) rfl)
                      | (go_at_call 13; refine (HX.out.sync (i := 0) rfl).mono ?_; rintro e w9 ⟨rfl, h⟩; replace HX := Aside0.mk h; clear h; (try clear hz0 hz1 hz2 hz3); have hz0 := cell_of_blk (HX.out.kept (List.Mem.head _)) (j := 0) rfl; have hz1 := cell_of_blk (HX.out.kept (List.Mem.head _)) (j := 1) rfl; have hz2 := cell_of_blk (HX.out.kept (List.Mem.head _)) (j := 2) rfl; have hz3 := cell_of_blk (HX.out.kept (List.Mem.head _)) (j := 3) rfl)
                      | fail)
                    have HX2 := Aside0.mk (HX.out.two (i := 2) (j := 1) (by decide) rfl rfl)
                    clear HX
                    have HX := HX2
                    clear HX2
                    obtain ⟨L2, hL2⟩ : ∃ L', L' = L := ⟨_, rfl⟩
                    obtain ⟨B2, hB2⟩ : ∃ B', B' = B := ⟨_, rfl⟩
                    have hLk2 : L2.length ≤ kk + 1 := by rw [hL2]; omega
                    rw [← hL2, ← hB2] at HX
                    clear hL2 hB2
                    have hl2 : L2.length < 4294967296 := by omega
                    (try clear hz0 hz1 hz2 hz3); have hz0 := cell_of_blk (HX.out.kept (List.Mem.head _)) (j := 0) rfl; have hz1 := cell_of_blk (HX.out.kept (List.Mem.head _)) (j := 1) rfl; have hz2 := cell_of_blk (HX.out.kept (List.Mem.head _)) (j := 2) rfl; have hz3 := cell_of_blk (HX.out.kept (List.Mem.head _)) (j := 3) rfl
                    go_wp2_with (first
                      | (go_at_call 19; refine (HX.out.readX (i := 0) rfl hl2 I).mono ?_; rintro e w4 ⟨vx, rfl, hB, hvx⟩; replace HX := Aside0.mk (HX.out.below hB); have HVX := Aside0.mk hvx; clear hB hvx; (try clear hz0 hz1 hz2 hz3); have hz0 := cell_of_blk (HX.out.kept (List.Mem.head _)) (j := 0) rfl; have hz1 := cell_of_blk (HX.out.kept (List.Mem.head _)) (j := 1) rfl; have hz2 := cell_of_blk (HX.out.kept (List.Mem.head _)) (j := 2) rfl; have hz3 := cell_of_blk (HX.out.kept (List.Mem.head _)) (j := 3) rfl)
                      | (go_at_call 20; refine (HX.out.rreadX (i := 1) rfl hl2 I).mono ?_; rintro e w5 ⟨vy, rfl, hB, hvy⟩; replace HX := Aside0.mk (HX.out.below hB); have hx5 := HVX.out _ hB; have hy5 := hvy _ (Below.refl _ _); clear hB hvy; (try clear hz0 hz1 hz2 hz3); have hz0 := cell_of_blk (HX.out.kept (List.Mem.head _)) (j := 0) rfl; have hz1 := cell_of_blk (HX.out.kept (List.Mem.head _)) (j := 1) rfl; have hz2 := cell_of_blk (HX.out.kept (List.Mem.head _)) (j := 2) rfl; have hz3 := cell_of_blk (HX.out.kept (List.Mem.head _)) (j := 3) rfl)
                      | (go_at_call 21; refine (mix_same HX.out (i := 0) (j := 1) rfl rfl hl2).mono ?_; rintro e wB ⟨rfl, hBF⟩; replace HX := Aside0.mk (HX.out.below hBF); clear hBF)
                      | fail)
                    all_goals go_roundg (n - (kk + 1))
                    all_goals first
                      | omega
                      | exact ⟨kk + 1, _, B2, L2, _, by omega, by omega, rfl, by go_num, hLk2, HX⟩
                  · go_upto_region 34 with fail
                    have HX2 := Aside0.mk (HX.out.two (i := 0) (j := 1) (by decide) rfl rfl)
                    clear HX
                    have HX := HX2
                    clear HX2
                    obtain ⟨L2, hL2⟩ : ∃ L', L' = L := ⟨_, rfl⟩
                    obtain ⟨B2, hB2⟩ : ∃ B', B' = B := ⟨_, rfl⟩
                    have hLk2 : L2.length ≤ kk + 1 := by rw [hL2]; omega
                    rw [← hL2, ← hB2] at HX
                    clear hL2 hB2
                    have hl2 : L2.length < 4294967296 := by omega
                    (try clear hz0 hz1 hz2 hz3); have hz0 := cell_of_blk (HX.out.kept (List.Mem.head _)) (j := 0) rfl; have hz1 := cell_of_blk (HX.out.kept (List.Mem.head _)) (j := 1) rfl; have hz2 := cell_of_blk (HX.out.kept (List.Mem.head _)) (j := 2) rfl; have hz3 := cell_of_blk (HX.out.kept (List.Mem.head _)) (j := 3) rfl
                    go_wp2_with (first
                      | (go_at_call 19; refine (HX.out.readX (i := 0) rfl hl2 I).mono ?_; rintro e w4 ⟨vx, rfl, hB, hvx⟩; replace HX := Aside0.mk (HX.out.below hB); have HVX := Aside0.mk hvx; clear hB hvx; (try clear hz0 hz1 hz2 hz3); have hz0 := cell_of_blk (HX.out.kept (List.Mem.head _)) (j := 0) rfl; have hz1 := cell_of_blk (HX.out.kept (List.Mem.head _)) (j := 1) rfl; have hz2 := cell_of_blk (HX.out.kept (List.Mem.head _)) (j := 2) rfl; have hz3 := cell_of_blk (HX.out.kept (List.Mem.head _)) (j := 3) rfl)
                      | (go_at_call 20; refine (HX.out.rreadX (i := 1) rfl hl2 I).mono ?_; rintro e w5 ⟨vy, rfl, hB, hvy⟩; replace HX := Aside0.mk (HX.out.below hB); have hx5 := HVX.out _ hB; have hy5 := hvy _ (Below.refl _ _); clear hB hvy; (try clear hz0 hz1 hz2 hz3); have hz0 := cell_of_blk (HX.out.kept (List.Mem.head _)) (j := 0) rfl; have hz1 := cell_of_blk (HX.out.kept (List.Mem.head _)) (j := 1) rfl; have hz2 := cell_of_blk (HX.out.kept (List.Mem.head _)) (j := 2) rfl; have hz3 := cell_of_blk (HX.out.kept (List.Mem.head _)) (j := 3) rfl)
                      | (go_at_call 21; refine (mix_same HX.out (i := 0) (j := 1) rfl rfl hl2).mono ?_; rintro e wB ⟨rfl, hBF⟩; replace HX := Aside0.mk (HX.out.below hBF); clear hBF)
                      | fail)
                    all_goals go_roundg (n - (kk + 1))
                    all_goals first
                      | omega
                      | exact ⟨kk + 1, _, B2, L2, _, by omega, by omega, rfl, by go_num, hLk2, HX⟩
        · have : kk = n := by omega
          subst this
          go_wp2
          all_goals go_ret
          all_goals exact ⟨rfl, HL.out.under⟩

theorem norialaw12_DevPlays.walk (a0 : Int) (a1 : Option Addr) (len1 cap1 : Nat) (w : World) (w0 : (Lit.int .i64 a0).wf = true) (w1 : ActRow w a1 len1) :
    Calls Try.prog 3 #[.int .i64 a0, .slice a1 len1 cap1] w fun e w' => e = .returned (.bool true) ∧ Below w.heap.size w w' := dev_plays a0 a1 cap1 len1 w w0 w1
end Go.Proofs.Ytkpfhlfbhceebaa.PAll
