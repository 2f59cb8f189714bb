/- DevOf walked. -/
import Derived.Test.YtkpfhlfbhceebaaROf
namespace Go.Proofs.Ytkpfhlfbhceebaa.PAll
open Go.Proofs.Ytkpfhlfbhceebaa.Help
open Go.RowKit Go.Proofs.YtkpfhlfbhceebaaW.PrintWords Go.Proofs.YtkpfhlfbhceebaaW.PrintLast Go.Proofs.YtkpfhlfbhceebaaW.PrintMore
set_option linter.unusedVariables false
set_option linter.unusedSimpArgs false
set_option maxRecDepth 100000 in
set_option maxHeartbeats 4000000 in
theorem dev_devof (A0 : Option Addr) (c0 : Nat) (bs : List Int) (i : Int) (w : World) (hr0 : Kd.C (Kd.int .u8) w A0 bs.length bs) (hc0 : bs.length ≤ c0) :
    Calls Try.prog 4 #[.slice A0 bs.length c0, .int .i64 i] w fun e w' => e = .returned (.bool true) ∧ Below w.heap.size w w' := by
  have HR0 := Aside0.mk hr0
  have hl0 : bs.length ≤ 9223372036854775807 := hr0.2.1
  clear hr0
  by_cases hbig : 5000 < bs.length
  · go_enter Try.func4, Try.ntmps4
    go_wp2_with (go_at_call 8; refine (dev_known _).mono ?_; rintro e w1 ⟨rfl, hB⟩)
    all_goals first | (exfalso; omega) | skip
    all_goals go_ret
    all_goals exact ⟨rfl, hB⟩
  · have hq0 : bs.length ≤ 5000 := by omega
    clear hbig
    by_cases hok : bs.length % 64 = 0 ∧ 4 ≤ bs.length / 64 ∧ bs.length / 64 ≤ 1024
    · obtain ⟨n, hn⟩ : ∃ n, bs.length = n * 64 := ⟨bs.length / 64, by omega⟩
      have h4 : 4 ≤ n := by omega
      have hm : n ≤ 1024 := by omega
      have HN := Aside0.mk hn
      clear hok hn
      go_enter Try.func4, Try.ntmps4
      go_upto_region 13 with (first
        | (go_at_call 8; refine (dev_known _).mono ?_; rintro e w1 ⟨rfl, hB⟩; have HX : Aside0 (Mix w w1 noMix []) := ⟨Mix.none_ hB⟩; clear hB)
        | (go_at_call 22; refine (HX.out.of 0 rfl (C_later HR0.out HX.out.under) hc0 HN.out h4 hm).mono ?_; rintro e w2 ⟨p, rfl, h⟩; replace HX := Aside0.mk h; clear h)
        | (go_at_call 23; refine (HX.out.rof 1 rfl (C_later HR0.out HX.out.under) hc0 HN.out h4 hm).mono ?_; rintro e w3 ⟨pm, rfl, h⟩; replace HX := Aside0.mk h; clear h)
        | (go_at_call 19; refine (HX.out.readX (i := 0) rfl (by simp) i).mono ?_; rintro e w4 ⟨vx, rfl, hB, hvx⟩; replace HX := Aside0.mk (HX.out.below hB); have HVX := Aside0.mk hvx; clear hB hvx)
        | (go_at_call 20; refine (HX.out.rreadX (i := 1) rfl (by simp) i).mono ?_; rintro e w5 ⟨vy, rfl, hB, hvy⟩; replace HX := Aside0.mk (HX.out.below hB); have HVX1 : Aside0 (∀ W', Below w5.heap.size w5 W' → (convert 31 9 vx).run Try.prog W' = .ok (.string (rstr n bs [] i)) W') := ⟨fun W' h => HVX.out W' (below_step hB h)⟩; have HVY := Aside0.mk hvy; clear hB hvy HVX)
        | fail)
      obtain ⟨Dx, Rx, hDx, hRx, h5⟩ := HX.out.pack
      have hd0 : Dx 0 = some ⟨false, p, n, bs, []⟩ := by rw [hDx]; rfl
      have hd1 : Dx 1 = some ⟨true, pm, n, bs, []⟩ := by rw [hDx]; rfl
      have HD0 := Aside0.mk hd0
      have HD1 := Aside0.mk hd1
      have HQ := Aside0.mk (h5.below (W' := w5.drew) ⟨rfl, rfl, rfl, Nat.le_refl _, fun _ _ => rfl⟩)
      have HB : Aside0 (Below w5.heap.size w5 w5.drew) := ⟨⟨rfl, rfl, rfl, Nat.le_refl _, fun _ _ => rfl⟩⟩
      have hS : Aside0 (∀ W', Below w5.heap.size w5 W' → (convert 31 9 vx).run Try.prog W' = .ok (.string (rstr n bs [] i)) W' ∧ (convert 31 9 vy).run Try.prog W' = .ok (.string (rstr n bs [] i)) W' ∧ (convert 31 9 (.slice A0 bs.length c0)).run Try.prog W' = .ok (.string (strOfNums bs)) W') :=
        ⟨fun W' h => ⟨HVX1.out W' h, HVY.out W' h, C_str (C_later HR0.out (below_step h5.under h))⟩⟩
      have hS0 := hS.out _ HB.out
      obtain ⟨sx, hsx⟩ : ∃ s, s = rstr n bs [] i := ⟨_, rfl⟩
      rw [← hsx] at hS hS0
      clear HX HVX1 HVY h5 hDx hRx hd0 hd1 hsx
      refine wp_region_noPanic ?_
      refine wp_region_held_drew (S := (fun w' => (convert 31 9 vx).run Try.prog w' = .ok (.string sx) w' ∧ (convert 31 9 vy).run Try.prog w' = .ok (.string sx) w' ∧ (convert 31 9 (.slice A0 bs.length c0)).run Try.prog w' = .ok (.string (strOfNums bs)) w')) (by kernel_rfl) ?_ (fun hHeld => ?_)
      · (try dsimp only) <;> (first | assumption | exact hS.out _ HB.out)
      refine held_take 0 (v := ?_) rfl (by kernel_rfl) (fun _ _ _ h => h) (by rfl) ?_ (by assumption) ?_
      rotate_left 1
      · (intro w hSw; (try dsimp only at hSw); go_simp)
        all_goals with_reducible rfl
      (try simp only [Act.put, List.setIfInBounds_toArray, List.set_cons_zero, List.set_cons_succ])
      refine held_take 1 (v := ?_) rfl (by kernel_rfl) (fun _ _ _ h => h) (by rfl) ?_ (by assumption) ?_
      rotate_left 1
      · (intro w hSw; (try dsimp only at hSw); go_simp)
        all_goals with_reducible rfl
      (try simp only [Act.put, List.setIfInBounds_toArray, List.set_cons_zero, List.set_cons_succ])
      refine held_take 2 (v := ?_) rfl (by kernel_rfl) (fun _ _ _ h => h) (by rfl) ?_ (by assumption) ?_
      rotate_left 1
      · (intro w hSw; (try dsimp only at hSw); go_simp)
        all_goals with_reducible rfl
      (try simp only [Act.put, List.setIfInBounds_toArray, List.set_cons_zero, List.set_cons_succ])
      refine held_take 3 (v := ?_) rfl (by kernel_rfl) (fun _ _ _ h => h) (by rfl) ?_ (by assumption) ?_
      rotate_left 1
      · (intro w hSw; (try dsimp only at hSw); go_simp)
        all_goals with_reducible rfl
      (try simp only [Act.put, List.setIfInBounds_toArray, List.set_cons_zero, List.set_cons_succ])
      refine held_take 4 (v := ?_) rfl (by kernel_rfl) (fun _ _ _ h => h) (by rfl) ?_ (by assumption) ?_
      rotate_left 1
      · (intro w hSw; (try dsimp only at hSw); go_simp)
        all_goals with_reducible rfl
      (try simp only [Act.put, List.setIfInBounds_toArray, List.set_cons_zero, List.set_cons_succ])
      refine held_take 5 (v := ?_) rfl (by kernel_rfl) (fun _ _ _ h => h) (by rfl) ?_ (by assumption) ?_
      rotate_left 1
      · (intro w hSw; (try dsimp only at hSw); go_simp)
        all_goals with_reducible rfl
      (try simp only [Act.put, List.setIfInBounds_toArray, List.set_cons_zero, List.set_cons_succ])
      refine held_take 6 (v := ?_) rfl (by kernel_rfl) (fun _ _ _ h => h) (by rfl) ?_ (by assumption) ?_
      rotate_left 1
      · (intro w hSw; (try dsimp only at hSw); go_simp)
        all_goals with_reducible rfl
      (try simp only [Act.put, List.setIfInBounds_toArray, List.set_cons_zero, List.set_cons_succ])
      refine held_take 7 (v := ?_) rfl (by kernel_rfl) (fun _ _ _ h => h) (by rfl) ?_ (by assumption) ?_
      rotate_left 1
      · (intro w hSw; (try dsimp only at hSw); go_simp)
        all_goals with_reducible rfl
      (try simp only [Act.put, List.setIfInBounds_toArray, List.set_cons_zero, List.set_cons_succ])
      refine held_take 8 (v := ?_) rfl (by kernel_rfl) (fun _ _ _ h => h) (by rfl) ?_ (by assumption) ?_
      rotate_left 1
      · (intro w hSw; (try dsimp only at hSw); go_simp)
        all_goals with_reducible rfl
      (try simp only [Act.put, List.setIfInBounds_toArray, List.set_cons_zero, List.set_cons_succ])
      refine held_take 9 (v := ?_) rfl (by kernel_rfl) (fun _ _ _ h => h) (by rfl) ?_ (by assumption) ?_
      rotate_left 1
      · (intro w hSw; (try dsimp only at hSw); go_simp)
        all_goals with_reducible rfl
      (try simp only [Act.put, List.setIfInBounds_toArray, List.set_cons_zero, List.set_cons_succ])
      refine held_take 10 (v := ?_) rfl (by kernel_rfl) (fun _ _ _ h => h) (by rfl) ?_ (by assumption) ?_
      rotate_left 1
      · (intro w hSw; (try dsimp only at hSw); go_simp)
        all_goals with_reducible rfl
      (try simp only [Act.put, List.setIfInBounds_toArray, List.set_cons_zero, List.set_cons_succ])
      refine held_take 11 (v := ?_) rfl (by kernel_rfl) (fun _ _ _ h => h) (by rfl) ?_ (by assumption) ?_
      rotate_left 1
      · (intro w hSw; (try dsimp only at hSw); go_simp)
        all_goals with_reducible rfl
      (try simp only [Act.put, List.setIfInBounds_toArray, List.set_cons_zero, List.set_cons_succ])
      refine held_take 14 (v := ?_) rfl (by kernel_rfl) (fun _ _ _ h => h) (by rfl) ?_ (by assumption) ?_
      rotate_left 1
      · (intro w hSw; (try dsimp only at hSw); go_simp)
        all_goals with_reducible rfl
      (try simp only [Act.put, List.setIfInBounds_toArray, List.set_cons_zero, List.set_cons_succ])
      refine held_take 15 (v := ?_) rfl (by kernel_rfl) (fun _ _ _ h => h) (by rfl) ?_ (by assumption) ?_
      rotate_left 1
      · (intro w hSw; (try dsimp only at hSw); go_simp)
        all_goals with_reducible rfl
      (try simp only [Act.put, List.setIfInBounds_toArray, List.set_cons_zero, List.set_cons_succ])
      refine wpAnyH_ready (rs := [12]) (by kernel_rfl) (by simp) ?_
      refine held_step 12 rfl (fun K hK => ?_) ?_
      · go_simp
        go_wp2_with (first | (go_at_call 24; have hc := HQ.out.bytes HD0.out (by simp); simp only [List.length_nil, aft] at hc; (with_reducible refine hc.mono ?_); clear hc; rintro e wA ⟨gA, cA, rfl, hcF, hgF, hOA, hBF⟩; replace HQ := Aside0.mk (HQ.out.below hBF); replace HB := Aside0.mk (below_step HB.out hBF); have hcA := hOA.str; clear hOA hBF hgF hcF) | (go_at_call 21; refine (mix_same HQ.out HD0.out HD1.out (by simp)).mono ?_; rintro e wB ⟨rfl, hBF⟩; replace HQ := Aside0.mk (HQ.out.below hBF); replace HB := Aside0.mk (below_step HB.out hBF); clear hBF) | fail)
        refine hK.out _ _ ?_ ?_
        · (try dsimp only) <;> (first | assumption | exact hS.out _ HB.out)
        clear hK K hHeld
        intro hHeld
        (try simp only [Act.put, List.setIfInBounds_toArray, List.set_cons_zero, List.set_cons_succ])
        refine wpAnyH_ready (rs := [13]) (by kernel_rfl) (by simp) ?_
        refine held_step 13 rfl (fun K hK => ?_) ?_
        · go_simp
          refine hK.out _ _ ?_ ?_
          · (try dsimp only) <;> (first | assumption | exact hS.out _ HB.out)
          clear hK K hHeld
          intro hHeld
          (try simp only [Act.put, List.setIfInBounds_toArray, List.set_cons_zero, List.set_cons_succ])
          refine held_take 16 (v := ?_) rfl (by kernel_rfl) (fun _ _ _ h => h) (by rfl) ?_ (by assumption) ?_
          rotate_left 1
          · (intro w hSw; (try dsimp only at hSw); go_simp)
            all_goals with_reducible rfl
          (try simp only [Act.put, List.setIfInBounds_toArray, List.set_cons_zero, List.set_cons_succ])
          refine held_take 17 (v := ?_) rfl (by kernel_rfl) (fun _ _ _ h => h) (by rfl) ?_ (by assumption) ?_
          rotate_left 1
          · (intro w hSw; (try dsimp only at hSw); go_simp)
            all_goals with_reducible rfl
          (try simp only [Act.put, List.setIfInBounds_toArray, List.set_cons_zero, List.set_cons_succ])
          refine held_take 18 (v := ?_) rfl (by kernel_rfl) (fun _ _ _ h => h) (by rfl) ?_ (by assumption) ?_
          rotate_left 1
          · (intro w hSw; (try dsimp only at hSw); go_simp)
            all_goals with_reducible rfl
          (try simp only [Act.put, List.setIfInBounds_toArray, List.set_cons_zero, List.set_cons_succ])
          refine held_take 19 (v := ?_) rfl (by kernel_rfl) (fun _ _ _ h => h) (by rfl) ?_ (by assumption) ?_
          rotate_left 1
          · (intro w hSw; (try dsimp only at hSw); go_simp)
            all_goals with_reducible rfl
          (try simp only [Act.put, List.setIfInBounds_toArray, List.set_cons_zero, List.set_cons_succ])
          refine held_take 20 (v := ?_) rfl (by kernel_rfl) (fun _ _ _ h => h) (by rfl) ?_ (by assumption) ?_
          rotate_left 1
          · (intro w hSw; (try dsimp only at hSw); go_simp)
            all_goals with_reducible rfl
          (try simp only [Act.put, List.setIfInBounds_toArray, List.set_cons_zero, List.set_cons_succ])
          refine wpAnyH_ready (rs := [21]) (by kernel_rfl) (by simp) ?_
          refine held_step 21 rfl (fun K hK => ?_) ?_
          · go_simp
            go_wp2_with (first | (go_at_call 24; have hc := HQ.out.bytes HD0.out (by simp); simp only [List.length_nil, aft] at hc; (with_reducible refine hc.mono ?_); clear hc; rintro e wA ⟨gA, cA, rfl, hcF, hgF, hOA, hBF⟩; replace HQ := Aside0.mk (HQ.out.below hBF); replace HB := Aside0.mk (below_step HB.out hBF); have hcA := hOA.str; clear hOA hBF hgF hcF) | (go_at_call 21; refine (mix_same HQ.out HD0.out HD1.out (by simp)).mono ?_; rintro e wB ⟨rfl, hBF⟩; replace HQ := Aside0.mk (HQ.out.below hBF); replace HB := Aside0.mk (below_step HB.out hBF); clear hBF) | fail)
            refine hK.out _ _ ?_ ?_
            · (try dsimp only) <;> (first | assumption | exact hS.out _ HB.out)
            clear hK K hHeld
            intro hHeld
            (try simp only [Act.put, List.setIfInBounds_toArray, List.set_cons_zero, List.set_cons_succ])
            refine held_take 22 (v := ?_) rfl (by kernel_rfl) (fun _ _ _ h => h) (by rfl) ?_ (by assumption) ?_
            rotate_left 1
            · (intro w hSw; (try dsimp only at hSw); go_simp)
              all_goals with_reducible rfl
            (try simp only [Act.put, List.setIfInBounds_toArray, List.set_cons_zero, List.set_cons_succ])
            refine held_take 23 (v := ?_) rfl (by kernel_rfl) (fun _ _ _ h => h) (by rfl) ?_ (by assumption) ?_
            rotate_left 1
            · (intro w hSw; (try dsimp only at hSw); go_simp)
              all_goals with_reducible rfl
            (try simp only [Act.put, List.setIfInBounds_toArray, List.set_cons_zero, List.set_cons_succ])
            refine wpAnyH_done (by kernel_rfl) ?_ _
            refine NoPanic.normal ?_
            go_wp2
            go_ret
            exact ⟨by simp, HQ.out.under⟩
          exact AllReadyH.nil
        exact AllReadyH.nil
      exact AllReadyH.nil
    · go_enter Try.func4, Try.ntmps4
      go_wp2_with (first
        | (go_at_call 8; refine (dev_known _).mono ?_; rintro e w1 ⟨rfl, hB⟩; have HB := Aside0.mk hB; clear hB)
        | (go_at_call 22; refine (dev_of_bad (C_later HR0.out HB.out) hok).mono ?_; rintro e w2 ⟨rfl, rfl⟩)
        | (go_at_call 23; refine (ref_of_bad (C_later HR0.out HB.out) hok).mono ?_; rintro e w2 ⟨rfl, rfl⟩)
        | fail)
      all_goals go_ret
      all_goals exact ⟨rfl, HB.out⟩
theorem norialaw12_DevOf.walk (a0 : Option Addr) (len0 cap0 : Nat) (z0 : List Int) (a1 : Int) (w : World)
    (w0 : (a0 = none ∧ len0 = 0 ∧ cap0 = 0 ∧ z0 = []) ∨ ∃ x, a0 = some x ∧ len0 ≤ cap0 ∧ cap0 ≤ maxLen ∧ z0.length = cap0 ∧ (∀ i, i < z0.length → w.cell? (x.add i) = some (.int .u8 (z0.getD i 0))) ∧ ∀ n ∈ z0, (Lit.int .u8 n).wf = true) (y0 : len0 * 1 ≤ 140737488351232) (w1 : (Lit.int .i64 a1).wf = true) :
    Calls Try.prog 4 #[.slice a0 len0 cap0, .int .i64 a1] w fun e w' => e = .returned (.bool true) ∧ Below w.heap.size w w' := by
  obtain ⟨l0, rfl, hr0, hm0, hw0, hc0⟩ := ReadsInt.ofRowC w0
  exact dev_devof a0 cap0 l0 a1 w (Kd.C_of_reads (d := (0 : Int)) (h1 := fun _ => rfl) hr0) hc0
end Go.Proofs.Ytkpfhlfbhceebaa.PAll
