/- PageWrites walked. -/
import Derived.Test.YtpaiigonagiemaaPg15
namespace Go.Proofs.Ytpaiigonagiemaa.PAll
open Go.Proofs.Ytpaiigonagiemaa.Help
open Go.RowKit Go.Proofs.YtpaiigonagiemaaW.PrintWords Go.Proofs.YtpaiigonagiemaaW.PrintLast Go.Proofs.YtpaiigonagiemaaW.PrintMore
open Go.Proofs.Ytpaiigonagiemaa.Num (isB enc psz wrapB unwrapB size_eq psz_fits)
set_option linter.unusedVariables false
set_option linter.unusedSimpArgs false
theorem page_writes_long (A : Option Addr) (c : Nat) (b : List Int) (t to_ fr m : Int) (w : World) (h5 : 600 < b.length) :
    Calls Try.prog 8 #[.slice A b.length c, .int .u8 t, .int .i64 to_, .int .i64 fr, .int .i64 m] w fun e w' => e = .returned (.bool true) ∧ Below w.heap.size w w' := by
  have h1 : decide ((600 : Int) < (b.length : Int)) = true := decide_eq_true (by omega)
  go_enter Try.func8, Try.ntmps8
  go_wp2_with (first
    | (go_at_call 9; refine (page_known _).mono ?_; rintro e w1 ⟨rfl, hB⟩; have HBw := Aside0.mk hB; clear hB)
    | fail)
  all_goals go_ret
  all_goals exact ⟨by simp, HBw.out⟩
set_option maxRecDepth 100000 in
set_option maxHeartbeats 4000000 in
theorem page_writes (A : Option Addr) (c : Nat) (b : List Int) (t : Nat) (to_ fr m : Int) (w : World) (hr : Kd.C (Kd.int .u8) w A b.length b) (hc : b.length ≤ c) (hB : isB b) (h6 : b.length ≤ 600) (ht : t ≤ 255) (hto : -9223372036854775808 ≤ to_) :
    Calls Try.prog 8 #[.slice A b.length c, .int .u8 (t : Int), .int .i64 to_, .int .i64 fr, .int .i64 m] w fun e w' => e = .returned (.bool true) ∧ Below w.heap.size w w' := by
  obtain ⟨r, hr0⟩ : ∃ r, r = t % 20 := ⟨_, rfl⟩
  obtain ⟨k, hk⟩ : ∃ k, k = 4 + r := ⟨_, rfl⟩
  have hm1 : Int.tmod (t : Int) 20 = (r : Int) := by rw [Int.tmod_eq_emod_of_nonneg (by omega)]; omega
  have hwr : IntKind.i64.wrap (r : Int) = (r : Int) := wrapI (by omega) (by omega)
  have hwk : IntKind.i64.wrap (4 + (r : Int)) = (k : Int) := (wrapI (by omega) (by omega)).trans (by omega)
  have hk4 : 4 ≤ k := by omega
  have hkm : k ≤ 1024 := by omega
  have d1 : decide ((600 : Int) < (b.length : Int)) = false := decide_eq_false (by omega)
  have HS := Aside0.mk (size_eq (n := b.length) (by omega) 12 (by omega))
  obtain ⟨B0, hB0⟩ : ∃ B0 : List Int, B0 = List.replicate (k * 64) 0 := ⟨_, rfl⟩
  have HB0 := Aside0.mk hB0
  have HBB : Aside0 (isB B0) := ⟨by rw [hB0]; exact rep_isB _ (by decide) (by decide)⟩
  have HWp := Aside0.mk (fun (w0 W : World) D R (h : Mix w0 W D R) i p B hi hr => page_writeX (A := A) (c := c) h (i := i) (p := p) (n := k) (B := B) hi hto hr hc hB (by omega))
  have HWr := Aside0.mk (fun (w0 W : World) D R (h : Mix w0 W D R) i p B hi hr => ref_page_writeX (A := A) (c := c) h (i := i) (p := p) (n := k) (B := B) hi hto hr hc hB (by omega))
  have hLB := wL_isB (n := k) (at_ := to_) hB
  have hLL := wL_length (n := k) (at_ := to_) h6
  have HE : Aside0 (wE k to_ b = 9 ∨ (wE k to_ b = 0 ∧ rP k B0 (wL k to_ b) to_ (psz b.length : Int) = (b, 0))) := ⟨by
    rcases wE_or k to_ b with h | ⟨h, hf⟩
    · exact .inl h
    · exact .inr ⟨h, rP_wL hB (by omega) hf⟩⟩
  generalize wL k to_ b = L at *
  generalize wE k to_ b = er at *
  obtain ⟨P, ep, hP⟩ : ∃ P ep, rP k B0 L fr m = (P, ep) := ⟨_, _, rfl⟩
  have HLB := Aside0.mk hLB
  have HLL := Aside0.mk hLL
  have HP := Aside0.mk hP
  have HR := Aside0.mk hr
  obtain ⟨Bs, hBs⟩ : ∃ B', aft (fun _ => true) L B0 L.length = B' := ⟨_, rfl⟩
  have HBs := Aside0.mk hBs
  clear hr hc hB hB0 hr0 hk hLB hLL hP hBs
  have HX := Aside0.mk (Mix.none_ (Below.refl w.heap.size w))
  go_enter Try.func8, Try.ntmps8
  go_upto_region 12 with (first
    | (go_at_call 9; refine (page_known _).mono ?_; rintro e w1 ⟨rfl, hB⟩; replace HX := Aside0.mk (HX.out.below hB); clear hB)
    | (go_at_call 16; refine (HX.out.new 0 rfl (n := k) hk4 hkm).mono ?_; rintro e w2 ⟨p, rfl, h⟩; rw [← HB0.out] at h; replace HX := Aside0.mk h; clear h)
    | (go_at_call 19; refine (HX.out.rnew 1 rfl (n := k) hk4 hkm).mono ?_; rintro e w3 ⟨pm, rfl, h⟩; rw [← HB0.out] at h; replace HX := Aside0.mk h; clear h)
    | (go_at_call 17; refine (HWp.out _ _ _ _ HX.out 0 p B0 rfl (Kd.C_below HR.out HX.out.under)).mono ?_; rintro e w4 ⟨rfl, R4, h⟩; replace HX := Aside0.mk h; clear h)
    | (go_at_call 20; refine (HWr.out _ _ _ _ HX.out 1 pm B0 rfl (Kd.C_below HR.out HX.out.under)).mono ?_; rintro e w5 ⟨rfl, R5, h⟩; replace HX := Aside0.mk h; clear h)
    | fail)
  obtain ⟨Dx, Rx, hDx, hRx, h5⟩ := HX.out.pack
  have hd0 : Dx 0 = some ⟨false, p, k, B0, L⟩ := by rw [hDx]; rfl
  have hd1 : Dx 1 = some ⟨true, pm, k, B0, L⟩ := by rw [hDx]; rfl
  obtain ⟨Aw, cw, hL, hcell⟩ := h5.rwaits' hd1
  have ok := h5.ok hd0
  have hBsl : Bs.length = k * 64 := by rw [← HBs.out]; exact aft_length ok.len ok.wait _
  have HBsl := Aside0.mk hBsl
  have HI := Aside0.mk hd0
  have HJ := Aside0.mk hd1
  have HL : Aside0 (L.length < 4294967296) := ⟨by have := HLL.out; omega⟩
  have HQ := Aside0.mk (h5.below (W' := w5.drew) ⟨rfl, rfl, rfl, Nat.le_refl _, fun _ _ => rfl⟩)
  have HB : Aside0 (Below w5.heap.size w5 w5.drew) := ⟨⟨rfl, rfl, rfl, Nat.le_refl _, fun _ _ => rfl⟩⟩
  have hS := Aside0.mk hcell
  have hS0 := hcell _ HB.out
  have hee : (er != er) = false := by simp
  clear ok hBsl hd0 hd1 hcell h5 hDx hRx HX
  refine wp_region_noPanic ?_
  refine wp_region_held_drew (S := (fun w' => w'.cell? ⟨pm, 1, none⟩ = some (.slice Aw L.length cw))) (by kernel_rfl) ?_ (fun hHeld => ?_)
  · (try dsimp only) <;> (first | assumption | exact hS.out _ HB.out)
  refine held_take 0 (v := ?_) rfl (by kernel_rfl) (fun _ _ _ h => h) (by rfl) ?_ (by assumption) ?_
  rotate_left 1
  · (intro w hSw; (try dsimp only at hSw); go_simp)
    all_goals with_reducible rfl
  (try simp only [Act.put, List.setIfInBounds_toArray, List.set_cons_zero, List.set_cons_succ])
  refine held_take 1 (v := ?_) rfl (by kernel_rfl) (fun _ _ _ h => h) (by rfl) ?_ (by assumption) ?_
  rotate_left 1
  · (intro w hSw; (try dsimp only at hSw); go_simp)
    all_goals with_reducible rfl
  (try simp only [Act.put, List.setIfInBounds_toArray, List.set_cons_zero, List.set_cons_succ])
  refine held_take 2 (v := ?_) rfl (by kernel_rfl) (fun _ _ _ h => h) (by rfl) ?_ (by assumption) ?_
  rotate_left 1
  · (intro w hSw; (try dsimp only at hSw); go_simp)
    all_goals with_reducible rfl
  (try simp only [Act.put, List.setIfInBounds_toArray, List.set_cons_zero, List.set_cons_succ])
  refine held_take 3 (v := ?_) rfl (by kernel_rfl) (fun _ _ _ h => h) (by rfl) ?_ (by assumption) ?_
  rotate_left 1
  · (intro w hSw; (try dsimp only at hSw); go_simp)
    all_goals with_reducible rfl
  (try simp only [Act.put, List.setIfInBounds_toArray, List.set_cons_zero, List.set_cons_succ])
  refine held_take 4 (v := ?_) rfl (by kernel_rfl) (fun _ _ _ h => h) (by rfl) ?_ (by assumption) ?_
  rotate_left 1
  · (intro w hSw; (try dsimp only at hSw); go_simp)
    all_goals with_reducible rfl
  (try simp only [Act.put, List.setIfInBounds_toArray, List.set_cons_zero, List.set_cons_succ])
  refine held_take 7 (v := ?_) rfl (by kernel_rfl) (fun _ _ _ h => h) (by rfl) ?_ (by assumption) ?_
  rotate_left 1
  · (intro w hSw; (try dsimp only at hSw); go_simp)
    all_goals with_reducible rfl
  (try simp only [Act.put, List.setIfInBounds_toArray, List.set_cons_zero, List.set_cons_succ])
  refine wpAnyH_ready (rs := [5]) (by kernel_rfl) (by simp) ?_
  refine held_step 5 rfl (fun K hK => ?_) ?_
  · go_simp
    go_wp2_with (first | (go_at_call 23; refine (HQ.out.waits HI.out).mono ?_; rintro e w1 ⟨rfl, rfl⟩) | (go_at_call 21; have hc := HQ.out.bytes HI.out HL.out; rw [HBs.out, HBsl.out] at hc; (with_reducible refine hc.mono ?_); clear hc; rintro e wA ⟨gA, cA, rfl, hcF, hgF, hOA, hBF⟩; replace HQ := Aside0.mk (HQ.out.below hBF); replace HB := Aside0.mk (below_step HB.out hBF); have hcA := hOA.str; rw [HBsl.out] at hcA; have HOA := Aside0.mk hOA; clear hOA hBF hgF hcF) | (go_at_call 22; have hc := HQ.out.rbytes HJ.out HL.out; rw [HBs.out, HBsl.out] at hc; (with_reducible refine hc.mono ?_); clear hc; rintro e wB ⟨gB, cB, rfl, hcF, hgF, hOB, hBF⟩; replace HQ := Aside0.mk (HQ.out.below hBF); replace HB := Aside0.mk (below_step HB.out hBF); have hcA1 := (HOA.out.same (hBF.block _ HOA.out.lt)).str; rw [HBsl.out] at hcA1; have hcB := hOB.str; rw [HBsl.out] at hcB; clear hOB hBF hgF hcF) | fail)
    refine hK.out _ _ ?_ ?_
    · (try dsimp only) <;> (first | assumption | exact hS.out _ HB.out)
    clear hK K hHeld
    intro hHeld
    (try simp only [Act.put, List.setIfInBounds_toArray, List.set_cons_zero, List.set_cons_succ])
    refine wpAnyH_ready (rs := [6, 8]) (by kernel_rfl) (by simp) ?_
    refine held_step 6 rfl (fun K hK => ?_) ?_
    · go_simp
      refine hK.out _ _ ?_ ?_
      · (try dsimp only) <;> (first | assumption | exact hS.out _ HB.out)
      clear hK K hHeld
      intro hHeld
      (try simp only [Act.put, List.setIfInBounds_toArray, List.set_cons_zero, List.set_cons_succ])
      refine wpAnyH_ready (rs := [8]) (by kernel_rfl) (by simp) ?_
      refine held_step 8 rfl (fun K hK => ?_) ?_
      · go_simp
        go_wp2_with (first | (go_at_call 23; refine (HQ.out.waits HI.out).mono ?_; rintro e w1 ⟨rfl, rfl⟩) | (go_at_call 21; have hc := HQ.out.bytes HI.out HL.out; rw [HBs.out, HBsl.out] at hc; (with_reducible refine hc.mono ?_); clear hc; rintro e wA ⟨gA, cA, rfl, hcF, hgF, hOA, hBF⟩; replace HQ := Aside0.mk (HQ.out.below hBF); replace HB := Aside0.mk (below_step HB.out hBF); have hcA := hOA.str; rw [HBsl.out] at hcA; have HOA := Aside0.mk hOA; clear hOA hBF hgF hcF) | (go_at_call 22; have hc := HQ.out.rbytes HJ.out HL.out; rw [HBs.out, HBsl.out] at hc; (with_reducible refine hc.mono ?_); clear hc; rintro e wB ⟨gB, cB, rfl, hcF, hgF, hOB, hBF⟩; replace HQ := Aside0.mk (HQ.out.below hBF); replace HB := Aside0.mk (below_step HB.out hBF); have hcA1 := (HOA.out.same (hBF.block _ HOA.out.lt)).str; rw [HBsl.out] at hcA1; have hcB := hOB.str; rw [HBsl.out] at hcB; clear hOB hBF hgF hcF) | fail)
        refine hK.out _ _ ?_ ?_
        · (try dsimp only) <;> (first | assumption | exact hS.out _ HB.out)
        clear hK K hHeld
        intro hHeld
        (try simp only [Act.put, List.setIfInBounds_toArray, List.set_cons_zero, List.set_cons_succ])
        refine wpAnyH_ready (rs := [9]) (by kernel_rfl) (by simp) ?_
        refine held_step 9 rfl (fun K hK => ?_) ?_
        · go_simp
          refine hK.out _ _ ?_ ?_
          · (try dsimp only) <;> (first | assumption | exact hS.out _ HB.out)
          clear hK K hHeld
          intro hHeld
          (try simp only [Act.put, List.setIfInBounds_toArray, List.set_cons_zero, List.set_cons_succ])
          refine held_take 10 (v := ?_) rfl (by kernel_rfl) (fun _ _ _ h => h) (by rfl) ?_ (by assumption) ?_
          rotate_left 1
          · (intro w hSw; (try dsimp only at hSw); go_simp)
            all_goals with_reducible rfl
          (try simp only [Act.put, List.setIfInBounds_toArray, List.set_cons_zero, List.set_cons_succ])
          refine held_take 11 (v := ?_) rfl (by kernel_rfl) (fun _ _ _ h => h) (by rfl) ?_ (by assumption) ?_
          rotate_left 1
          · (intro w hSw; (try dsimp only at hSw); go_simp)
            all_goals with_reducible rfl
          (try simp only [Act.put, List.setIfInBounds_toArray, List.set_cons_zero, List.set_cons_succ])
          refine held_take 12 (v := ?_) rfl (by kernel_rfl) (fun _ _ _ h => h) (by rfl) ?_ (by assumption) ?_
          rotate_left 1
          · (intro w hSw; (try dsimp only at hSw); go_simp)
            all_goals with_reducible rfl
          (try simp only [Act.put, List.setIfInBounds_toArray, List.set_cons_zero, List.set_cons_succ])
          refine held_take 13 (v := ?_) rfl (by kernel_rfl) (fun _ _ _ h => h) (by rfl) ?_ (by assumption) ?_
          rotate_left 1
          · (intro w hSw; (try dsimp only at hSw); go_simp)
            all_goals with_reducible rfl
          (try simp only [Act.put, List.setIfInBounds_toArray, List.set_cons_zero, List.set_cons_succ])
          refine held_take 15 (v := ?_) rfl (by kernel_rfl) (fun _ _ _ h => h) (by rfl) ?_ (by assumption) ?_
          rotate_left 1
          · (intro w hSw; (try dsimp only at hSw); go_simp)
            all_goals with_reducible rfl
          (try simp only [Act.put, List.setIfInBounds_toArray, List.set_cons_zero, List.set_cons_succ])
          refine held_take 16 (v := ?_) rfl (by kernel_rfl) (fun _ _ _ h => h) (by rfl) ?_ (by assumption) ?_
          rotate_left 1
          · (intro w hSw; (try dsimp only at hSw); go_simp)
            all_goals with_reducible rfl
          (try simp only [Act.put, List.setIfInBounds_toArray, List.set_cons_zero, List.set_cons_succ])
          refine held_take 17 (v := ?_) rfl (by kernel_rfl) (fun _ _ _ h => h) (by rfl) ?_ (by assumption) ?_
          rotate_left 1
          · (intro w hSw; (try dsimp only at hSw); go_simp)
            all_goals with_reducible rfl
          (try simp only [Act.put, List.setIfInBounds_toArray, List.set_cons_zero, List.set_cons_succ])
          refine held_take 18 (v := ?_) rfl (by kernel_rfl) (fun _ _ _ h => h) (by rfl) ?_ (by assumption) ?_
          rotate_left 1
          · (intro w hSw; (try dsimp only at hSw); go_simp)
            all_goals with_reducible rfl
          (try simp only [Act.put, List.setIfInBounds_toArray, List.set_cons_zero, List.set_cons_succ])
          refine held_take 19 (v := ?_) rfl (by kernel_rfl) (fun _ _ _ h => h) (by rfl) ?_ (by assumption) ?_
          rotate_left 1
          · (intro w hSw; (try dsimp only at hSw); go_simp)
            all_goals with_reducible rfl
          (try simp only [Act.put, List.setIfInBounds_toArray, List.set_cons_zero, List.set_cons_succ])
          refine wpAnyH_ready (rs := [14]) (by kernel_rfl) (by simp) ?_
          refine held_step 14 rfl (fun K hK => ?_) ?_
          · go_simp
            go_wp2_with (first | (go_at_call 23; refine (HQ.out.waits HI.out).mono ?_; rintro e w1 ⟨rfl, rfl⟩) | (go_at_call 21; have hc := HQ.out.bytes HI.out HL.out; rw [HBs.out, HBsl.out] at hc; (with_reducible refine hc.mono ?_); clear hc; rintro e wA ⟨gA, cA, rfl, hcF, hgF, hOA, hBF⟩; replace HQ := Aside0.mk (HQ.out.below hBF); replace HB := Aside0.mk (below_step HB.out hBF); have hcA := hOA.str; rw [HBsl.out] at hcA; have HOA := Aside0.mk hOA; clear hOA hBF hgF hcF) | (go_at_call 22; have hc := HQ.out.rbytes HJ.out HL.out; rw [HBs.out, HBsl.out] at hc; (with_reducible refine hc.mono ?_); clear hc; rintro e wB ⟨gB, cB, rfl, hcF, hgF, hOB, hBF⟩; replace HQ := Aside0.mk (HQ.out.below hBF); replace HB := Aside0.mk (below_step HB.out hBF); have hcA1 := (HOA.out.same (hBF.block _ HOA.out.lt)).str; rw [HBsl.out] at hcA1; have hcB := hOB.str; rw [HBsl.out] at hcB; clear hOB hBF hgF hcF) | fail)
            refine hK.out _ _ ?_ ?_
            · (try dsimp only) <;> (first | assumption | exact hS.out _ HB.out)
            clear hK K hHeld
            intro hHeld
            (try simp only [Act.put, List.setIfInBounds_toArray, List.set_cons_zero, List.set_cons_succ])
            refine held_take 20 (v := ?_) rfl (by kernel_rfl) (fun _ _ _ h => h) (by rfl) ?_ (by assumption) ?_
            rotate_left 1
            · (intro w hSw; (try dsimp only at hSw); go_simp)
              all_goals with_reducible rfl
            (try simp only [Act.put, List.setIfInBounds_toArray, List.set_cons_zero, List.set_cons_succ])
            refine held_take 21 (v := ?_) rfl (by kernel_rfl) (fun _ _ _ h => h) (by rfl) ?_ (by assumption) ?_
            rotate_left 1
            · (intro w hSw; (try dsimp only at hSw); go_simp)
              all_goals with_reducible rfl
            (try simp only [Act.put, List.setIfInBounds_toArray, List.set_cons_zero, List.set_cons_succ])
            refine wpAnyH_done (by kernel_rfl) ?_ _
            refine NoPanic.normal ?_
            clear HWp HWr
            rcases HE.out with rfl | ⟨rfl, hz⟩
            · go_wp2_with (first
                | (go_at_call_of 18 (Value.int IntKind.i64 fr); have hc := page_readX HQ.out HI.out HL.out HBB.out HLB.out fr m; rw [HP.out] at hc; (with_reducible refine hc.mono ?_); clear hc; rintro e w7 ⟨v7, rfl, ho, hB⟩; obtain ⟨A7, c7, rfl, hc7, hC7⟩ := Kd.R_reads ho; have HC7 : Aside0 (Kd.C (Kd.int .u8) w7 A7 P.length P) := ⟨hC7⟩; replace HQ := Aside0.mk (HQ.out.below hB); clear hB ho hc7 hC7)
                | (go_at_call 24; have hc := ref_page_readX HQ.out HJ.out HL.out HBB.out HLB.out fr m; rw [HP.out] at hc; (with_reducible refine hc.mono ?_); clear hc; rintro e w8 ⟨v8, rfl, ho, hB⟩; obtain ⟨A8, c8, rfl, hc8, hC8⟩ := Kd.R_reads ho; have hs8 := C_str (c := c8) hC8; have hs7 := C_str (c := c7) (Kd.C_below HC7.out hB); replace HQ := Aside0.mk (HQ.out.below hB); clear hB ho hc8 hC8)
                | fail)
              all_goals go_ret
              all_goals exact ⟨by simp, HQ.out.under⟩
            · have HZ := Aside0.mk hz
              clear hz
              go_wp2_with (first
                | (go_at_call_of 18 (Value.int IntKind.i64 fr); have hc := page_readX HQ.out HI.out HL.out HBB.out HLB.out fr m; rw [HP.out] at hc; (with_reducible refine hc.mono ?_); clear hc; rintro e w7 ⟨v7, rfl, ho, hB⟩; obtain ⟨A7, c7, rfl, hc7, hC7⟩ := Kd.R_reads ho; have HC7 : Aside0 (Kd.C (Kd.int .u8) w7 A7 P.length P) := ⟨hC7⟩; replace HQ := Aside0.mk (HQ.out.below hB); clear hB ho hc7 hC7)
                | (go_at_call 24; have hc := ref_page_readX HQ.out HJ.out HL.out HBB.out HLB.out fr m; rw [HP.out] at hc; (with_reducible refine hc.mono ?_); clear hc; rintro e w8 ⟨v8, rfl, ho, hB⟩; obtain ⟨A8, c8, rfl, hc8, hC8⟩ := Kd.R_reads ho; have hs8 := C_str (c := c8) hC8; have hs7 := C_str (c := c7) (Kd.C_below HC7.out hB); replace HQ := Aside0.mk (HQ.out.below hB); clear hB ho hc8 hC8)
                | (go_at_call 12; refine (page_Size.calls 12 _ _ _ HS.out).mono ?_; rintro e w9 ⟨rfl, hB⟩; replace HQ := Aside0.mk (HQ.out.below hB); clear hB)
                | (go_at_call_of 18 (Value.int IntKind.i64 to_); have hc := page_readX HQ.out HI.out HL.out HBB.out HLB.out to_ (psz b.length : Int); rw [HZ.out] at hc; (with_reducible refine hc.mono ?_); clear hc; rintro e w10 ⟨v10, rfl, ho, hB⟩; obtain ⟨A10, c10, rfl, hc10, hC10⟩ := Kd.R_reads ho; have hs10 := C_str (c := c10) hC10; replace HQ := Aside0.mk (HQ.out.below hB); have hsb := C_str (c := c) (Kd.C_below HR.out HQ.out.under); clear hB ho hc10 hC10)
                | fail)
              all_goals go_ret
              all_goals exact ⟨by simp, HQ.out.under⟩
          exact AllReadyH.nil
        exact AllReadyH.nil
      exact AllReadyH.nil
    refine held_step 8 rfl (fun K hK => ?_) ?_
    · go_simp
      go_wp2_with (first | (go_at_call 23; refine (HQ.out.waits HI.out).mono ?_; rintro e w1 ⟨rfl, rfl⟩) | (go_at_call 21; have hc := HQ.out.bytes HI.out HL.out; rw [HBs.out, HBsl.out] at hc; (with_reducible refine hc.mono ?_); clear hc; rintro e wA ⟨gA, cA, rfl, hcF, hgF, hOA, hBF⟩; replace HQ := Aside0.mk (HQ.out.below hBF); replace HB := Aside0.mk (below_step HB.out hBF); have hcA := hOA.str; rw [HBsl.out] at hcA; have HOA := Aside0.mk hOA; clear hOA hBF hgF hcF) | (go_at_call 22; have hc := HQ.out.rbytes HJ.out HL.out; rw [HBs.out, HBsl.out] at hc; (with_reducible refine hc.mono ?_); clear hc; rintro e wB ⟨gB, cB, rfl, hcF, hgF, hOB, hBF⟩; replace HQ := Aside0.mk (HQ.out.below hBF); replace HB := Aside0.mk (below_step HB.out hBF); have hcA1 := (HOA.out.same (hBF.block _ HOA.out.lt)).str; rw [HBsl.out] at hcA1; have hcB := hOB.str; rw [HBsl.out] at hcB; clear hOB hBF hgF hcF) | fail)
      refine hK.out _ _ ?_ ?_
      · (try dsimp only) <;> (first | assumption | exact hS.out _ HB.out)
      clear hK K hHeld
      intro hHeld
      (try simp only [Act.put, List.setIfInBounds_toArray, List.set_cons_zero, List.set_cons_succ])
      refine wpAnyH_ready (rs := [6, 9]) (by kernel_rfl) (by simp) ?_
      refine held_step 6 rfl (fun K hK => ?_) ?_
      · go_simp
        refine hK.out _ _ ?_ ?_
        · (try dsimp only) <;> (first | assumption | exact hS.out _ HB.out)
        clear hK K hHeld
        intro hHeld
        (try simp only [Act.put, List.setIfInBounds_toArray, List.set_cons_zero, List.set_cons_succ])
        refine wpAnyH_ready (rs := [9]) (by kernel_rfl) (by simp) ?_
        refine held_step 9 rfl (fun K hK => ?_) ?_
        · go_simp
          refine hK.out _ _ ?_ ?_
          · (try dsimp only) <;> (first | assumption | exact hS.out _ HB.out)
          clear hK K hHeld
          intro hHeld
          (try simp only [Act.put, List.setIfInBounds_toArray, List.set_cons_zero, List.set_cons_succ])
          refine held_take 10 (v := ?_) rfl (by kernel_rfl) (fun _ _ _ h => h) (by rfl) ?_ (by assumption) ?_
          rotate_left 1
          · (intro w hSw; (try dsimp only at hSw); go_simp)
            all_goals with_reducible rfl
          (try simp only [Act.put, List.setIfInBounds_toArray, List.set_cons_zero, List.set_cons_succ])
          refine held_take 11 (v := ?_) rfl (by kernel_rfl) (fun _ _ _ h => h) (by rfl) ?_ (by assumption) ?_
          rotate_left 1
          · (intro w hSw; (try dsimp only at hSw); go_simp)
            all_goals with_reducible rfl
          (try simp only [Act.put, List.setIfInBounds_toArray, List.set_cons_zero, List.set_cons_succ])
          refine held_take 12 (v := ?_) rfl (by kernel_rfl) (fun _ _ _ h => h) (by rfl) ?_ (by assumption) ?_
          rotate_left 1
          · (intro w hSw; (try dsimp only at hSw); go_simp)
            all_goals with_reducible rfl
          (try simp only [Act.put, List.setIfInBounds_toArray, List.set_cons_zero, List.set_cons_succ])
          refine held_take 13 (v := ?_) rfl (by kernel_rfl) (fun _ _ _ h => h) (by rfl) ?_ (by assumption) ?_
          rotate_left 1
          · (intro w hSw; (try dsimp only at hSw); go_simp)
            all_goals with_reducible rfl
          (try simp only [Act.put, List.setIfInBounds_toArray, List.set_cons_zero, List.set_cons_succ])
          refine held_take 15 (v := ?_) rfl (by kernel_rfl) (fun _ _ _ h => h) (by rfl) ?_ (by assumption) ?_
          rotate_left 1
          · (intro w hSw; (try dsimp only at hSw); go_simp)
            all_goals with_reducible rfl
          (try simp only [Act.put, List.setIfInBounds_toArray, List.set_cons_zero, List.set_cons_succ])
          refine held_take 16 (v := ?_) rfl (by kernel_rfl) (fun _ _ _ h => h) (by rfl) ?_ (by assumption) ?_
          rotate_left 1
          · (intro w hSw; (try dsimp only at hSw); go_simp)
            all_goals with_reducible rfl
          (try simp only [Act.put, List.setIfInBounds_toArray, List.set_cons_zero, List.set_cons_succ])
          refine held_take 17 (v := ?_) rfl (by kernel_rfl) (fun _ _ _ h => h) (by rfl) ?_ (by assumption) ?_
          rotate_left 1
          · (intro w hSw; (try dsimp only at hSw); go_simp)
            all_goals with_reducible rfl
          (try simp only [Act.put, List.setIfInBounds_toArray, List.set_cons_zero, List.set_cons_succ])
          refine held_take 18 (v := ?_) rfl (by kernel_rfl) (fun _ _ _ h => h) (by rfl) ?_ (by assumption) ?_
          rotate_left 1
          · (intro w hSw; (try dsimp only at hSw); go_simp)
            all_goals with_reducible rfl
          (try simp only [Act.put, List.setIfInBounds_toArray, List.set_cons_zero, List.set_cons_succ])
          refine held_take 19 (v := ?_) rfl (by kernel_rfl) (fun _ _ _ h => h) (by rfl) ?_ (by assumption) ?_
          rotate_left 1
          · (intro w hSw; (try dsimp only at hSw); go_simp)
            all_goals with_reducible rfl
          (try simp only [Act.put, List.setIfInBounds_toArray, List.set_cons_zero, List.set_cons_succ])
          refine wpAnyH_ready (rs := [14]) (by kernel_rfl) (by simp) ?_
          refine held_step 14 rfl (fun K hK => ?_) ?_
          · go_simp
            go_wp2_with (first | (go_at_call 23; refine (HQ.out.waits HI.out).mono ?_; rintro e w1 ⟨rfl, rfl⟩) | (go_at_call 21; have hc := HQ.out.bytes HI.out HL.out; rw [HBs.out, HBsl.out] at hc; (with_reducible refine hc.mono ?_); clear hc; rintro e wA ⟨gA, cA, rfl, hcF, hgF, hOA, hBF⟩; replace HQ := Aside0.mk (HQ.out.below hBF); replace HB := Aside0.mk (below_step HB.out hBF); have hcA := hOA.str; rw [HBsl.out] at hcA; have HOA := Aside0.mk hOA; clear hOA hBF hgF hcF) | (go_at_call 22; have hc := HQ.out.rbytes HJ.out HL.out; rw [HBs.out, HBsl.out] at hc; (with_reducible refine hc.mono ?_); clear hc; rintro e wB ⟨gB, cB, rfl, hcF, hgF, hOB, hBF⟩; replace HQ := Aside0.mk (HQ.out.below hBF); replace HB := Aside0.mk (below_step HB.out hBF); have hcA1 := (HOA.out.same (hBF.block _ HOA.out.lt)).str; rw [HBsl.out] at hcA1; have hcB := hOB.str; rw [HBsl.out] at hcB; clear hOB hBF hgF hcF) | fail)
            refine hK.out _ _ ?_ ?_
            · (try dsimp only) <;> (first | assumption | exact hS.out _ HB.out)
            clear hK K hHeld
            intro hHeld
            (try simp only [Act.put, List.setIfInBounds_toArray, List.set_cons_zero, List.set_cons_succ])
            refine held_take 20 (v := ?_) rfl (by kernel_rfl) (fun _ _ _ h => h) (by rfl) ?_ (by assumption) ?_
            rotate_left 1
            · (intro w hSw; (try dsimp only at hSw); go_simp)
              all_goals with_reducible rfl
            (try simp only [Act.put, List.setIfInBounds_toArray, List.set_cons_zero, List.set_cons_succ])
            refine held_take 21 (v := ?_) rfl (by kernel_rfl) (fun _ _ _ h => h) (by rfl) ?_ (by assumption) ?_
            rotate_left 1
            · (intro w hSw; (try dsimp only at hSw); go_simp)
              all_goals with_reducible rfl
            (try simp only [Act.put, List.setIfInBounds_toArray, List.set_cons_zero, List.set_cons_succ])
            refine wpAnyH_done (by kernel_rfl) ?_ _
            refine NoPanic.normal ?_
            clear HWp HWr
            rcases HE.out with rfl | ⟨rfl, hz⟩
            · go_wp2_with (first
                | (go_at_call_of 18 (Value.int IntKind.i64 fr); have hc := page_readX HQ.out HI.out HL.out HBB.out HLB.out fr m; rw [HP.out] at hc; (with_reducible refine hc.mono ?_); clear hc; rintro e w7 ⟨v7, rfl, ho, hB⟩; obtain ⟨A7, c7, rfl, hc7, hC7⟩ := Kd.R_reads ho; have HC7 : Aside0 (Kd.C (Kd.int .u8) w7 A7 P.length P) := ⟨hC7⟩; replace HQ := Aside0.mk (HQ.out.below hB); clear hB ho hc7 hC7)
                | (go_at_call 24; have hc := ref_page_readX HQ.out HJ.out HL.out HBB.out HLB.out fr m; rw [HP.out] at hc; (with_reducible refine hc.mono ?_); clear hc; rintro e w8 ⟨v8, rfl, ho, hB⟩; obtain ⟨A8, c8, rfl, hc8, hC8⟩ := Kd.R_reads ho; have hs8 := C_str (c := c8) hC8; have hs7 := C_str (c := c7) (Kd.C_below HC7.out hB); replace HQ := Aside0.mk (HQ.out.below hB); clear hB ho hc8 hC8)
                | fail)
              all_goals go_ret
              all_goals exact ⟨by simp, HQ.out.under⟩
            · have HZ := Aside0.mk hz
              clear hz
              go_wp2_with (first
                | (go_at_call_of 18 (Value.int IntKind.i64 fr); have hc := page_readX HQ.out HI.out HL.out HBB.out HLB.out fr m; rw [HP.out] at hc; (with_reducible refine hc.mono ?_); clear hc; rintro e w7 ⟨v7, rfl, ho, hB⟩; obtain ⟨A7, c7, rfl, hc7, hC7⟩ := Kd.R_reads ho; have HC7 : Aside0 (Kd.C (Kd.int .u8) w7 A7 P.length P) := ⟨hC7⟩; replace HQ := Aside0.mk (HQ.out.below hB); clear hB ho hc7 hC7)
                | (go_at_call 24; have hc := ref_page_readX HQ.out HJ.out HL.out HBB.out HLB.out fr m; rw [HP.out] at hc; (with_reducible refine hc.mono ?_); clear hc; rintro e w8 ⟨v8, rfl, ho, hB⟩; obtain ⟨A8, c8, rfl, hc8, hC8⟩ := Kd.R_reads ho; have hs8 := C_str (c := c8) hC8; have hs7 := C_str (c := c7) (Kd.C_below HC7.out hB); replace HQ := Aside0.mk (HQ.out.below hB); clear hB ho hc8 hC8)
                | (go_at_call 12; refine (page_Size.calls 12 _ _ _ HS.out).mono ?_; rintro e w9 ⟨rfl, hB⟩; replace HQ := Aside0.mk (HQ.out.below hB); clear hB)
                | (go_at_call_of 18 (Value.int IntKind.i64 to_); have hc := page_readX HQ.out HI.out HL.out HBB.out HLB.out to_ (psz b.length : Int); rw [HZ.out] at hc; (with_reducible refine hc.mono ?_); clear hc; rintro e w10 ⟨v10, rfl, ho, hB⟩; obtain ⟨A10, c10, rfl, hc10, hC10⟩ := Kd.R_reads ho; have hs10 := C_str (c := c10) hC10; replace HQ := Aside0.mk (HQ.out.below hB); have hsb := C_str (c := c) (Kd.C_below HR.out HQ.out.under); clear hB ho hc10 hC10)
                | fail)
              all_goals go_ret
              all_goals exact ⟨by simp, HQ.out.under⟩
          exact AllReadyH.nil
        exact AllReadyH.nil
      refine held_step 9 rfl (fun K hK => ?_) ?_
      · go_simp
        refine hK.out _ _ ?_ ?_
        · (try dsimp only) <;> (first | assumption | exact hS.out _ HB.out)
        clear hK K hHeld
        intro hHeld
        (try simp only [Act.put, List.setIfInBounds_toArray, List.set_cons_zero, List.set_cons_succ])
        refine wpAnyH_ready (rs := [6]) (by kernel_rfl) (by simp) ?_
        refine held_step 6 rfl (fun K hK => ?_) ?_
        · go_simp
          refine hK.out _ _ ?_ ?_
          · (try dsimp only) <;> (first | assumption | exact hS.out _ HB.out)
          clear hK K hHeld
          intro hHeld
          (try simp only [Act.put, List.setIfInBounds_toArray, List.set_cons_zero, List.set_cons_succ])
          refine held_take 10 (v := ?_) rfl (by kernel_rfl) (fun _ _ _ h => h) (by rfl) ?_ (by assumption) ?_
          rotate_left 1
          · (intro w hSw; (try dsimp only at hSw); go_simp)
            all_goals with_reducible rfl
          (try simp only [Act.put, List.setIfInBounds_toArray, List.set_cons_zero, List.set_cons_succ])
          refine held_take 11 (v := ?_) rfl (by kernel_rfl) (fun _ _ _ h => h) (by rfl) ?_ (by assumption) ?_
          rotate_left 1
          · (intro w hSw; (try dsimp only at hSw); go_simp)
            all_goals with_reducible rfl
          (try simp only [Act.put, List.setIfInBounds_toArray, List.set_cons_zero, List.set_cons_succ])
          refine held_take 12 (v := ?_) rfl (by kernel_rfl) (fun _ _ _ h => h) (by rfl) ?_ (by assumption) ?_
          rotate_left 1
          · (intro w hSw; (try dsimp only at hSw); go_simp)
            all_goals with_reducible rfl
          (try simp only [Act.put, List.setIfInBounds_toArray, List.set_cons_zero, List.set_cons_succ])
          refine held_take 13 (v := ?_) rfl (by kernel_rfl) (fun _ _ _ h => h) (by rfl) ?_ (by assumption) ?_
          rotate_left 1
          · (intro w hSw; (try dsimp only at hSw); go_simp)
            all_goals with_reducible rfl
          (try simp only [Act.put, List.setIfInBounds_toArray, List.set_cons_zero, List.set_cons_succ])
          refine held_take 15 (v := ?_) rfl (by kernel_rfl) (fun _ _ _ h => h) (by rfl) ?_ (by assumption) ?_
          rotate_left 1
          · (intro w hSw; (try dsimp only at hSw); go_simp)
            all_goals with_reducible rfl
          (try simp only [Act.put, List.setIfInBounds_toArray, List.set_cons_zero, List.set_cons_succ])
          refine held_take 16 (v := ?_) rfl (by kernel_rfl) (fun _ _ _ h => h) (by rfl) ?_ (by assumption) ?_
          rotate_left 1
          · (intro w hSw; (try dsimp only at hSw); go_simp)
            all_goals with_reducible rfl
          (try simp only [Act.put, List.setIfInBounds_toArray, List.set_cons_zero, List.set_cons_succ])
          refine held_take 17 (v := ?_) rfl (by kernel_rfl) (fun _ _ _ h => h) (by rfl) ?_ (by assumption) ?_
          rotate_left 1
          · (intro w hSw; (try dsimp only at hSw); go_simp)
            all_goals with_reducible rfl
          (try simp only [Act.put, List.setIfInBounds_toArray, List.set_cons_zero, List.set_cons_succ])
          refine held_take 18 (v := ?_) rfl (by kernel_rfl) (fun _ _ _ h => h) (by rfl) ?_ (by assumption) ?_
          rotate_left 1
          · (intro w hSw; (try dsimp only at hSw); go_simp)
            all_goals with_reducible rfl
          (try simp only [Act.put, List.setIfInBounds_toArray, List.set_cons_zero, List.set_cons_succ])
          refine held_take 19 (v := ?_) rfl (by kernel_rfl) (fun _ _ _ h => h) (by rfl) ?_ (by assumption) ?_
          rotate_left 1
          · (intro w hSw; (try dsimp only at hSw); go_simp)
            all_goals with_reducible rfl
          (try simp only [Act.put, List.setIfInBounds_toArray, List.set_cons_zero, List.set_cons_succ])
          refine wpAnyH_ready (rs := [14]) (by kernel_rfl) (by simp) ?_
          refine held_step 14 rfl (fun K hK => ?_) ?_
          · go_simp
            go_wp2_with (first | (go_at_call 23; refine (HQ.out.waits HI.out).mono ?_; rintro e w1 ⟨rfl, rfl⟩) | (go_at_call 21; have hc := HQ.out.bytes HI.out HL.out; rw [HBs.out, HBsl.out] at hc; (with_reducible refine hc.mono ?_); clear hc; rintro e wA ⟨gA, cA, rfl, hcF, hgF, hOA, hBF⟩; replace HQ := Aside0.mk (HQ.out.below hBF); replace HB := Aside0.mk (below_step HB.out hBF); have hcA := hOA.str; rw [HBsl.out] at hcA; have HOA := Aside0.mk hOA; clear hOA hBF hgF hcF) | (go_at_call 22; have hc := HQ.out.rbytes HJ.out HL.out; rw [HBs.out, HBsl.out] at hc; (with_reducible refine hc.mono ?_); clear hc; rintro e wB ⟨gB, cB, rfl, hcF, hgF, hOB, hBF⟩; replace HQ := Aside0.mk (HQ.out.below hBF); replace HB := Aside0.mk (below_step HB.out hBF); have hcA1 := (HOA.out.same (hBF.block _ HOA.out.lt)).str; rw [HBsl.out] at hcA1; have hcB := hOB.str; rw [HBsl.out] at hcB; clear hOB hBF hgF hcF) | fail)
            refine hK.out _ _ ?_ ?_
            · (try dsimp only) <;> (first | assumption | exact hS.out _ HB.out)
            clear hK K hHeld
            intro hHeld
            (try simp only [Act.put, List.setIfInBounds_toArray, List.set_cons_zero, List.set_cons_succ])
            refine held_take 20 (v := ?_) rfl (by kernel_rfl) (fun _ _ _ h => h) (by rfl) ?_ (by assumption) ?_
            rotate_left 1
            · (intro w hSw; (try dsimp only at hSw); go_simp)
              all_goals with_reducible rfl
            (try simp only [Act.put, List.setIfInBounds_toArray, List.set_cons_zero, List.set_cons_succ])
            refine held_take 21 (v := ?_) rfl (by kernel_rfl) (fun _ _ _ h => h) (by rfl) ?_ (by assumption) ?_
            rotate_left 1
            · (intro w hSw; (try dsimp only at hSw); go_simp)
              all_goals with_reducible rfl
            (try simp only [Act.put, List.setIfInBounds_toArray, List.set_cons_zero, List.set_cons_succ])
            refine wpAnyH_done (by kernel_rfl) ?_ _
            refine NoPanic.normal ?_
            clear HWp HWr
            rcases HE.out with rfl | ⟨rfl, hz⟩
            · go_wp2_with (first
                | (go_at_call_of 18 (Value.int IntKind.i64 fr); have hc := page_readX HQ.out HI.out HL.out HBB.out HLB.out fr m; rw [HP.out] at hc; (with_reducible refine hc.mono ?_); clear hc; rintro e w7 ⟨v7, rfl, ho, hB⟩; obtain ⟨A7, c7, rfl, hc7, hC7⟩ := Kd.R_reads ho; have HC7 : Aside0 (Kd.C (Kd.int .u8) w7 A7 P.length P) := ⟨hC7⟩; replace HQ := Aside0.mk (HQ.out.below hB); clear hB ho hc7 hC7)
                | (go_at_call 24; have hc := ref_page_readX HQ.out HJ.out HL.out HBB.out HLB.out fr m; rw [HP.out] at hc; (with_reducible refine hc.mono ?_); clear hc; rintro e w8 ⟨v8, rfl, ho, hB⟩; obtain ⟨A8, c8, rfl, hc8, hC8⟩ := Kd.R_reads ho; have hs8 := C_str (c := c8) hC8; have hs7 := C_str (c := c7) (Kd.C_below HC7.out hB); replace HQ := Aside0.mk (HQ.out.below hB); clear hB ho hc8 hC8)
                | fail)
              all_goals go_ret
              all_goals exact ⟨by simp, HQ.out.under⟩
            · have HZ := Aside0.mk hz
              clear hz
              go_wp2_with (first
                | (go_at_call_of 18 (Value.int IntKind.i64 fr); have hc := page_readX HQ.out HI.out HL.out HBB.out HLB.out fr m; rw [HP.out] at hc; (with_reducible refine hc.mono ?_); clear hc; rintro e w7 ⟨v7, rfl, ho, hB⟩; obtain ⟨A7, c7, rfl, hc7, hC7⟩ := Kd.R_reads ho; have HC7 : Aside0 (Kd.C (Kd.int .u8) w7 A7 P.length P) := ⟨hC7⟩; replace HQ := Aside0.mk (HQ.out.below hB); clear hB ho hc7 hC7)
                | (go_at_call 24; have hc := ref_page_readX HQ.out HJ.out HL.out HBB.out HLB.out fr m; rw [HP.out] at hc; (with_reducible refine hc.mono ?_); clear hc; rintro e w8 ⟨v8, rfl, ho, hB⟩; obtain ⟨A8, c8, rfl, hc8, hC8⟩ := Kd.R_reads ho; have hs8 := C_str (c := c8) hC8; have hs7 := C_str (c := c7) (Kd.C_below HC7.out hB); replace HQ := Aside0.mk (HQ.out.below hB); clear hB ho hc8 hC8)
                | (go_at_call 12; refine (page_Size.calls 12 _ _ _ HS.out).mono ?_; rintro e w9 ⟨rfl, hB⟩; replace HQ := Aside0.mk (HQ.out.below hB); clear hB)
                | (go_at_call_of 18 (Value.int IntKind.i64 to_); have hc := page_readX HQ.out HI.out HL.out HBB.out HLB.out to_ (psz b.length : Int); rw [HZ.out] at hc; (with_reducible refine hc.mono ?_); clear hc; rintro e w10 ⟨v10, rfl, ho, hB⟩; obtain ⟨A10, c10, rfl, hc10, hC10⟩ := Kd.R_reads ho; have hs10 := C_str (c := c10) hC10; replace HQ := Aside0.mk (HQ.out.below hB); have hsb := C_str (c := c) (Kd.C_below HR.out HQ.out.under); clear hB ho hc10 hC10)
                | fail)
              all_goals go_ret
              all_goals exact ⟨by simp, HQ.out.under⟩
          exact AllReadyH.nil
        exact AllReadyH.nil
      exact AllReadyH.nil
    exact AllReadyH.nil
  exact AllReadyH.nil
theorem norialaw13_PageWrites.walk (a0 : Option Addr) (len0 cap0 : Nat) (z0 : List Int) (a1 a2 a3 a4 : Int) (w : World)
    (w0 : (a0 = none ∧ len0 = 0 ∧ cap0 = 0 ∧ z0 = []) ∨ ∃ x, a0 = some x ∧ len0 ≤ cap0 ∧ cap0 ≤ maxLen ∧ z0.length = cap0 ∧ (∀ i, i < z0.length → w.cell? (x.add i) = some (.int .u8 (z0.getD i 0))) ∧ ∀ n ∈ z0, (Lit.int .u8 n).wf = true) (y0 : len0 * 1 ≤ 140737488351232)
    (w1 : (Lit.int .u8 a1).wf = true) (w2 : (Lit.int .i64 a2).wf = true) (w3 : (Lit.int .i64 a3).wf = true) (w4 : (Lit.int .i64 a4).wf = true) :
    Calls Try.prog 8 #[.slice a0 len0 cap0, .int .u8 a1, .int .i64 a2, .int .i64 a3, .int .i64 a4] w fun e w' => e = .returned (.bool true) ∧ Below w.heap.size w w' := by
  obtain ⟨l0, rfl, hr0, hm0, hw0, hc0⟩ := ReadsInt.ofRowC w0
  by_cases h5 : 600 < l0.length
  · exact page_writes_long a0 cap0 l0 a1 a2 a3 a4 w h5
  · obtain ⟨h0, h1⟩ := Go.bounds_u8 w1
    obtain ⟨m, rfl⟩ := Int.eq_ofNat_of_zero_le h0
    obtain ⟨h2, h3⟩ := Go.bounds_i64 w2
    exact page_writes a0 cap0 l0 m a2 a3 a4 w (Kd.C_of_reads (d := (0 : Int)) (h1 := fun _ => rfl) hr0) hc0 (Num.isB_of_wf hw0) (by omega) (by omega) h2
end Go.Proofs.Ytpaiigonagiemaa.PAll
