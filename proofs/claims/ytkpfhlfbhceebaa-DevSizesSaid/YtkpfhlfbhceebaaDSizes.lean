/- DevSizes walked. -/
import Derived.Test.YtkpfhlfbhceebaaDKnown
import Derived.Test.YtkpfhlfbhceebaaDOrd
import Derived.OpenShut
namespace Go.Proofs.Ytkpfhlfbhceebaa.PAll
open Go.Proofs.Ytkpfhlfbhceebaa.Help
open Go.RowKit Go.Proofs.YtkpfhlfbhceebaaW.PrintWords Go.Proofs.YtkpfhlfbhceebaaW.PrintLast Go.Proofs.YtkpfhlfbhceebaaW.PrintMore
set_option linter.unusedVariables false
set_option linter.unusedSimpArgs false
set_option maxRecDepth 100000 in
set_option maxHeartbeats 2000000 in
theorem dev_sizes (m : Nat) (a1 : Int) (w : World) (hm : m ≤ 65535) (w1 : (Lit.int .i64 a1).wf = true) : Calls Try.prog 7 #[.int .u16 (m : Int), .int .i64 a1] w fun e w' => e = .returned (.bool true) ∧ Below w.heap.size w w' := by
  obtain ⟨n, hn⟩ : ∃ n, n = m % 1100 := ⟨_, rfl⟩
  have hn1 : Int.tmod (m : Int) 1100 = (n : Int) := by rw [Int.tmod_eq_emod_of_nonneg (by omega)]; omega
  have hn2 : (m : Int) % 1100 = (n : Int) := by omega
  have hn3 : n < 1100 := by omega
  clear hn
  by_cases hbad : n < 4 ∨ 1024 < n
  · go_enter Try.func7, Try.ntmps7
    go_wp2_with (first
      | (go_at_call 8; refine (dev_known _).mono ?_; rintro e w1 ⟨rfl, hB⟩)
      | (go_at_call 9; refine (dev_new_bad (n := (n : Int)) (by omega)).mono ?_; rintro e w2 ⟨rfl, rfl⟩))
    all_goals go_ret
    all_goals exact ⟨by simp, hB⟩
  · have h4 : 4 ≤ n := by omega
    have h1024 : n ≤ 1024 := by omega
    clear hbad
    go_enter Try.func7, Try.ntmps7
    go_upto_region 9 with (first
      | (go_at_call 8; refine (dev_known _).mono ?_; rintro e w1 ⟨rfl, hB⟩; have HD := Aside0.mk (Devs.none_ hB); clear hB)
      | (go_at_call 9; refine (HD.out.new 0 rfl h4 h1024).mono ?_; rintro e w2 ⟨p, rfl, h⟩; replace HD := Aside0.mk h; clear h)
      | (go_at_call 26; refine (HD.out.blocks (i := 0) rfl).mono ?_; rintro e w7 ⟨rfl, rfl⟩)
      | (go_at_call 25; refine (HD.out.waits (i := 0) rfl).mono ?_; rintro e w7 ⟨rfl, rfl⟩))
    by_cases hat : 0 ≤ a1 ∧ a1 < (n : Int)
    · obtain ⟨h0, hlt⟩ := hat
      go_upto_region 13 with (first
        | (go_at_call 19; refine (HD.out.read (i := 0) rfl (by simp) h0 hlt).mono ?_; rintro e w8 ⟨gx, cx, rfl, hgx, hcx, hOx, hBx⟩; replace HD := Aside0.mk (HD.out.row hBx hOx hgx); clear hOx hBx hgx)
        | (go_at_call 18; refine (full_ok _).mono ?_; rintro e w5 ⟨gF, cF, rfl, hgF, hcF, hOF, hBF⟩; replace HD := Aside0.mk (HD.out.below hBF); have HF := Aside0.mk hOF; clear hOF hBF hgF)
        | (go_at_call 11; have hc := HD.out.write (i := 0) rfl (by simp) h0 hlt HF.out.reads (by rw [List.length_replicate]; exact hcF) List.length_replicate; rw [List.length_replicate] at hc; (with_reducible refine hc.mono ?_); clear hc; rintro e w6 ⟨rfl, h⟩; replace HD := Aside0.mk h; clear h HF))
      go_upto_region 14 with (first
        | (go_at_call 19; refine (HD.out.read (i := 0) rfl (by simp) h0 hlt).mono ?_; rintro e w8 ⟨gy, cy, rfl, hgx, hcx, hOx, hBx⟩; replace HD := Aside0.mk (HD.out.row hBx hOx hgx); clear hOx hBx hgx))
      clear hcF hcx
      obtain ⟨Dx, Rx, hDx, hRx, h18⟩ := HD.out.pack
      clear HD
      have hd0 : Dx 0 = some ⟨p, n, List.replicate (n * 64) 0, [] ++ [(a1, List.replicate 64 1)]⟩ := by rw [hDx]; rfl
      have ex : rblk (List.replicate (n * 64) 0) [] a1 = List.replicate 64 0 := by
        show ((List.replicate (n * 64) (0 : Int)).drop (a1.toNat * 64)).take 64 = _
        rw [List.drop_replicate, List.take_replicate, Nat.min_eq_left (by omega)]
      have ey : rblk (List.replicate (n * 64) 0) ([] ++ [(a1, List.replicate 64 1)]) a1 = List.replicate 64 1 := by
        simp [rblk, lastAt]
      have mx : (gx, cx, List.replicate 64 0) ∈ Rx := by rw [hRx, ← ex]; exact List.Mem.tail _ (List.Mem.head _)
      have my : (gy, cy, List.replicate 64 1) ∈ Rx := by
        have t : (gy, cy, rblk (List.replicate (n * 64) 0) ([] ++ [(a1, List.replicate 64 1)]) a1) ∈ Rx := (by rw [hRx]; exact List.Mem.head _)
        rwa [ey] at t
      have cvx : Aside0 (∀ w', Devs w w' Dx Rx → (convert 31 9 (.slice (some ⟨gx, 0, none⟩) 64 cx)).run Try.prog w' = .ok (.string (strOfNums (List.replicate 64 0))) w') := ⟨fun w' h => (h.kept mx).str⟩
      have cvy : Aside0 (∀ w', Devs w w' Dx Rx → (convert 31 9 (.slice (some ⟨gy, 0, none⟩) 64 cy)).run Try.prog w' = .ok (.string (strOfNums (List.replicate 64 1))) w') := ⟨fun w' h => (h.kept my).str⟩
      have hS : Aside0 (∀ w', Devs w w' Dx Rx → Aside0 (Devs w w' Dx Rx) ∧ (convert 31 9 (.slice (some ⟨gx, 0, none⟩) 64 cx)).run Try.prog w' = .ok (.string (strOfNums (List.replicate 64 0))) w' ∧ (convert 31 9 (.slice (some ⟨gy, 0, none⟩) 64 cy)).run Try.prog w' = .ok (.string (strOfNums (List.replicate 64 1))) w') := ⟨fun w' h => ⟨⟨h⟩, cvx.out w' h, cvy.out w' h⟩⟩
      have HD0 := Aside0.mk hd0
      have HQ := Aside0.mk (h18.below (W' := w8.drew) ⟨rfl, rfl, rfl, Nat.le_refl _, fun _ _ => rfl⟩)
      have hS0 := hS.out _ HQ.out
      clear hDx hRx ex ey mx my h18 hd0
      try simp only [List.append]
      refine wp_region_noPanic ?_
      refine wp_region_held_drew (S := (fun w' => Aside0 (Devs w w' Dx Rx) ∧ (convert 31 9 (.slice (some ⟨gx, 0, none⟩) 64 cx)).run Try.prog w' = .ok (.string (strOfNums (List.replicate 64 0))) w' ∧ (convert 31 9 (.slice (some ⟨gy, 0, none⟩) 64 cy)).run Try.prog w' = .ok (.string (strOfNums (List.replicate 64 1))) w')) (by kernel_rfl) ?_ (fun hHeld => ?_)
      · (try dsimp only) <;> (first | assumption | exact hS0)
      refine held_take 0 (v := ?_) rfl (by kernel_rfl) (fun _ _ _ h => h) (by rfl) ?_ (by assumption) ?_
      rotate_left 1
      · (intro w hSw; (try dsimp only at hSw); go_simp)
        all_goals with_reducible rfl
      (try simp only [Act.put, List.setIfInBounds_toArray, List.set_cons_zero, List.set_cons_succ])
      refine held_take 1 (v := ?_) rfl (by kernel_rfl) (fun _ _ _ h => h) (by rfl) ?_ (by assumption) ?_
      rotate_left 1
      · (intro w hSw; (try dsimp only at hSw); go_simp)
        all_goals with_reducible rfl
      (try simp only [Act.put, List.setIfInBounds_toArray, List.set_cons_zero, List.set_cons_succ])
      refine held_take 2 (v := ?_) rfl (by kernel_rfl) (fun _ _ _ h => h) (by rfl) ?_ (by assumption) ?_
      rotate_left 1
      · (intro w hSw; (try dsimp only at hSw); go_simp)
        all_goals with_reducible rfl
      (try simp only [Act.put, List.setIfInBounds_toArray, List.set_cons_zero, List.set_cons_succ])
      refine held_take 3 (v := ?_) rfl (by kernel_rfl) (fun _ _ _ h => h) (by rfl) ?_ (by assumption) ?_
      rotate_left 1
      · (intro w hSw; (try dsimp only at hSw); go_simp)
        all_goals with_reducible rfl
      (try simp only [Act.put, List.setIfInBounds_toArray, List.set_cons_zero, List.set_cons_succ])
      refine held_take 4 (v := ?_) rfl (by kernel_rfl) (fun _ _ _ h => h) (by rfl) ?_ (by assumption) ?_
      rotate_left 1
      · (intro w hSw; (try dsimp only at hSw); go_simp)
        all_goals with_reducible rfl
      (try simp only [Act.put, List.setIfInBounds_toArray, List.set_cons_zero, List.set_cons_succ])
      refine held_take 5 (v := ?_) rfl (by kernel_rfl) (fun _ _ _ h => h) (by rfl) ?_ (by assumption) ?_
      rotate_left 1
      · (intro w hSw; (try dsimp only at hSw); go_simp)
        all_goals with_reducible rfl
      (try simp only [Act.put, List.setIfInBounds_toArray, List.set_cons_zero, List.set_cons_succ])
      refine held_take 6 (v := ?_) rfl (by kernel_rfl) (fun _ _ _ h => h) (by rfl) ?_ (by assumption) ?_
      rotate_left 1
      · (intro w hSw; (try dsimp only at hSw); go_simp)
        all_goals with_reducible rfl
      (try simp only [Act.put, List.setIfInBounds_toArray, List.set_cons_zero, List.set_cons_succ])
      refine held_take 7 (v := ?_) rfl (by kernel_rfl) (fun _ _ _ h => h) (by rfl) ?_ (by assumption) ?_
      rotate_left 1
      · (intro w hSw; (try dsimp only at hSw); go_simp)
        all_goals with_reducible rfl
      (try simp only [Act.put, List.setIfInBounds_toArray, List.set_cons_zero, List.set_cons_succ])
      refine held_take 8 (v := ?_) rfl (by kernel_rfl) (fun _ _ _ h => h) (by rfl) ?_ (by assumption) ?_
      rotate_left 1
      · (intro w hSw; (try dsimp only at hSw); go_simp)
        all_goals with_reducible rfl
      (try simp only [Act.put, List.setIfInBounds_toArray, List.set_cons_zero, List.set_cons_succ])
      refine wpAnyH_ready (rs := [9]) (by kernel_rfl) (by simp) ?_
      refine held_step 9 rfl (fun K hK => ?_) ?_
      · go_simp
        go_wp2_with (first | (go_at_call 25; refine (HQ.out.waits (i := 0) HD0.out).mono ?_; rintro e w7 ⟨rfl, rfl⟩) | (go_at_call 18; refine (full_ok _).mono ?_; rintro e w5 ⟨gF, cF, rfl, hgF, hcF, hOF, hBF⟩; replace HQ := Aside0.mk (HQ.out.below hBF); have hS1 := hS.out _ HQ.out; have hcF1 : (convert 31 9 (.slice (some ⟨gF, 0, none⟩) 64 cF)).run Try.prog w5 = _ := hOF.str; clear hOF hBF hgF hcF))
        refine hK.out _ _ ?_ ?_
        · (try dsimp only) <;> (first | assumption | exact hS0)
        clear hK K hHeld
        intro hHeld
        (try simp only [Act.put, List.setIfInBounds_toArray, List.set_cons_zero, List.set_cons_succ])
        refine wpAnyH_ready (rs := [10]) (by kernel_rfl) (by simp) ?_
        refine held_step 10 rfl (fun K hK => ?_) ?_
        · go_simp
          refine hK.out _ _ ?_ ?_
          · (try dsimp only) <;> (first | assumption | exact hS0)
          clear hK K hHeld
          intro hHeld
          (try simp only [Act.put, List.setIfInBounds_toArray, List.set_cons_zero, List.set_cons_succ])
          refine held_take 11 (v := ?_) rfl (by kernel_rfl) (fun _ _ _ h => h) (by rfl) ?_ (by assumption) ?_
          rotate_left 1
          · (intro w hSw; (try dsimp only at hSw); go_simp)
            all_goals with_reducible rfl
          (try simp only [Act.put, List.setIfInBounds_toArray, List.set_cons_zero, List.set_cons_succ])
          refine held_take 12 (v := ?_) rfl (by kernel_rfl) (fun _ _ _ h => h) (by rfl) ?_ (by assumption) ?_
          rotate_left 1
          · (intro w hSw; (try dsimp only at hSw); go_simp)
            all_goals with_reducible rfl
          (try simp only [Act.put, List.setIfInBounds_toArray, List.set_cons_zero, List.set_cons_succ])
          refine held_take 13 (v := ?_) rfl (by kernel_rfl) (fun _ _ _ h => h) (by rfl) ?_ (by assumption) ?_
          rotate_left 1
          · (intro w hSw; (try dsimp only at hSw); go_simp)
            all_goals with_reducible rfl
          (try simp only [Act.put, List.setIfInBounds_toArray, List.set_cons_zero, List.set_cons_succ])
          refine held_take 14 (v := ?_) rfl (by kernel_rfl) (fun _ _ _ h => h) (by rfl) ?_ (by assumption) ?_
          rotate_left 1
          · (intro w hSw; (try dsimp only at hSw); go_simp)
            all_goals with_reducible rfl
          (try simp only [Act.put, List.setIfInBounds_toArray, List.set_cons_zero, List.set_cons_succ])
          refine held_take 15 (v := ?_) rfl (by kernel_rfl) (fun _ _ _ h => h) (by rfl) ?_ (by assumption) ?_
          rotate_left 1
          · (intro w hSw; (try dsimp only at hSw); go_simp)
            all_goals with_reducible rfl
          (try simp only [Act.put, List.setIfInBounds_toArray, List.set_cons_zero, List.set_cons_succ])
          refine wpAnyH_ready (rs := [16]) (by kernel_rfl) (by simp) ?_
          refine held_step 16 rfl (fun K hK => ?_) ?_
          · go_simp
            go_wp2_with (first | (go_at_call 25; refine (HQ.out.waits (i := 0) HD0.out).mono ?_; rintro e w7 ⟨rfl, rfl⟩) | (go_at_call 18; refine (full_ok _).mono ?_; rintro e w5 ⟨gF, cF, rfl, hgF, hcF, hOF, hBF⟩; replace HQ := Aside0.mk (HQ.out.below hBF); have hS1 := hS.out _ HQ.out; have hcF1 : (convert 31 9 (.slice (some ⟨gF, 0, none⟩) 64 cF)).run Try.prog w5 = _ := hOF.str; clear hOF hBF hgF hcF))
            refine hK.out _ _ ?_ ?_
            · (try dsimp only) <;> (first | assumption | exact hS0)
            clear hK K hHeld
            intro hHeld
            (try simp only [Act.put, List.setIfInBounds_toArray, List.set_cons_zero, List.set_cons_succ])
            refine wpAnyH_ready (rs := [17]) (by kernel_rfl) (by simp) ?_
            refine held_step 17 rfl (fun K hK => ?_) ?_
            · go_simp
              refine hK.out _ _ ?_ ?_
              · (try dsimp only) <;> (first | assumption | exact hS0)
              clear hK K hHeld
              intro hHeld
              (try simp only [Act.put, List.setIfInBounds_toArray, List.set_cons_zero, List.set_cons_succ])
              refine held_take 18 (v := ?_) rfl (by kernel_rfl) (fun _ _ _ h => h) (by rfl) ?_ (by assumption) ?_
              rotate_left 1
              · (intro w hSw; (try dsimp only at hSw); go_simp)
                all_goals with_reducible rfl
              (try simp only [Act.put, List.setIfInBounds_toArray, List.set_cons_zero, List.set_cons_succ])
              refine held_take 19 (v := ?_) rfl (by kernel_rfl) (fun _ _ _ h => h) (by rfl) ?_ (by assumption) ?_
              rotate_left 1
              · (intro w hSw; (try dsimp only at hSw); go_simp)
                all_goals with_reducible rfl
              (try simp only [Act.put, List.setIfInBounds_toArray, List.set_cons_zero, List.set_cons_succ])
              refine held_take 20 (v := ?_) rfl (by kernel_rfl) (fun _ _ _ h => h) (by rfl) ?_ (by assumption) ?_
              rotate_left 1
              · (intro w hSw; (try dsimp only at hSw); go_simp)
                all_goals with_reducible rfl
              (try simp only [Act.put, List.setIfInBounds_toArray, List.set_cons_zero, List.set_cons_succ])
              refine held_take 21 (v := ?_) rfl (by kernel_rfl) (fun _ _ _ h => h) (by rfl) ?_ (by assumption) ?_
              rotate_left 1
              · (intro w hSw; (try dsimp only at hSw); go_simp)
                all_goals with_reducible rfl
              (try simp only [Act.put, List.setIfInBounds_toArray, List.set_cons_zero, List.set_cons_succ])
              refine wpAnyH_ready (rs := [22]) (by kernel_rfl) (by simp) ?_
              refine held_step 22 rfl (fun K hK => ?_) ?_
              · go_simp
                go_wp2_with (first | (go_at_call 25; refine (HQ.out.waits (i := 0) HD0.out).mono ?_; rintro e w7 ⟨rfl, rfl⟩) | (go_at_call 18; refine (full_ok _).mono ?_; rintro e w5 ⟨gF, cF, rfl, hgF, hcF, hOF, hBF⟩; replace HQ := Aside0.mk (HQ.out.below hBF); have hS1 := hS.out _ HQ.out; have hcF1 : (convert 31 9 (.slice (some ⟨gF, 0, none⟩) 64 cF)).run Try.prog w5 = _ := hOF.str; clear hOF hBF hgF hcF))
                refine hK.out _ _ ?_ ?_
                · (try dsimp only) <;> (first | assumption | exact hS0)
                clear hK K hHeld
                intro hHeld
                (try simp only [Act.put, List.setIfInBounds_toArray, List.set_cons_zero, List.set_cons_succ])
                refine held_take 23 (v := ?_) rfl (by kernel_rfl) (fun _ _ _ h => h) (by rfl) ?_ (by assumption) ?_
                rotate_left 1
                · (intro w hSw; (try dsimp only at hSw); go_simp)
                  all_goals with_reducible rfl
                (try simp only [Act.put, List.setIfInBounds_toArray, List.set_cons_zero, List.set_cons_succ])
                refine held_take 24 (v := ?_) rfl (by kernel_rfl) (fun _ _ _ h => h) (by rfl) ?_ (by assumption) ?_
                rotate_left 1
                · (intro w hSw; (try dsimp only at hSw); go_simp)
                  all_goals with_reducible rfl
                (try simp only [Act.put, List.setIfInBounds_toArray, List.set_cons_zero, List.set_cons_succ])
                refine held_take 25 (v := ?_) rfl (by kernel_rfl) (fun _ _ _ h => h) (by rfl) ?_ (by assumption) ?_
                rotate_left 1
                · (intro w hSw; (try dsimp only at hSw); go_simp)
                  all_goals with_reducible rfl
                (try simp only [Act.put, List.setIfInBounds_toArray, List.set_cons_zero, List.set_cons_succ])
                refine wpAnyH_done (by kernel_rfl) ?_ _
                refine NoPanic.normal ?_
                all_goals go_wp2
                all_goals go_ret
                all_goals exact ⟨by simp, HQ.out.under⟩
              exact AllReadyH.nil
            exact AllReadyH.nil
          exact AllReadyH.nil
        exact AllReadyH.nil
      exact AllReadyH.nil
    · have hat2 : a1 < 0 ∨ (n : Int) ≤ a1 := by omega
      go_wp2_with (first
        | (go_at_call 19; refine (HD.out.read_bad (i := 0) rfl hat).mono ?_; rintro e w8 ⟨rfl, hBx⟩; replace HD := Aside0.mk (HD.out.below hBx); clear hBx)
        | (go_at_call 18; refine (full_ok _).mono ?_; rintro e w5 ⟨gF, cF, rfl, hgF, hcF, hOF, hBF⟩; replace HD := Aside0.mk (HD.out.below hBF); clear hOF hBF hgF)
        | (go_at_call 11; refine (HD.out.write_bad (i := 0) rfl (by omega) (.inl hat)).mono ?_; rintro e w6 ⟨rfl, rfl⟩)
        | (go_at_call 25; refine (HD.out.waits (i := 0) rfl).mono ?_; rintro e w7 ⟨rfl, rfl⟩))
      all_goals first | (exfalso; omega) | skip
      all_goals go_ret
      all_goals exact ⟨by simp, HD.out.under⟩
theorem norialaw12_DevSizes.walk (a0 : Int) (a1 : Int) (w : World) (w0 : (Lit.int .u16 a0).wf = true) (w1 : (Lit.int .i64 a1).wf = true) : Calls Try.prog 7 #[.int .u16 a0, .int .i64 a1] w fun e w' => e = .returned (.bool true) ∧ Below w.heap.size w w' := by
  obtain ⟨h0, h1⟩ := Go.bounds_u16 w0
  obtain ⟨m, rfl⟩ := Int.eq_ofNat_of_zero_le h0
  exact dev_sizes m a1 w (by omega) w1
end Go.Proofs.Ytkpfhlfbhceebaa.PAll
