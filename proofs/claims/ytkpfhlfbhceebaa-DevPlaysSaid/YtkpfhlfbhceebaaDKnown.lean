/- known: two writes to one block, the second one is lost. -/
import Derived.Test.YtkpfhlfbhceebaaDSys
import Derived.Test.YtkpfhlfbhceebaaDOrd
import Derived.OpenShut
namespace Go.Proofs.Ytkpfhlfbhceebaa.PAll
open Go.Proofs.Ytkpfhlfbhceebaa.Help
open Go.RowKit Go.Proofs.YtkpfhlfbhceebaaW.PrintWords Go.Proofs.YtkpfhlfbhceebaaW.PrintLast Go.Proofs.YtkpfhlfbhceebaaW.PrintMore
set_option linter.unusedVariables false
set_option linter.unusedSimpArgs false
theorem C_true (W : World) : Kd.C Kd.bool (W.alloc (.cells #[.bool true] 4)) (some ⟨W.heap.size, 0, none⟩) 1 [true] := by
  refine ⟨rfl, by decide, fun _ => ⟨_, rfl, fun j p hj => ⟨[.bool p], rfl, rfl, fun i u hi => ?_⟩⟩⟩
  obtain ⟨rfl, rfl⟩ : i = 0 ∧ u = .bool p := by
    cases i with
    | zero => simpa using hi.symm
    | succ i => simp at hi
  obtain ⟨rfl, rfl⟩ : j = 0 ∧ p = true := by
    cases j with
    | zero => simpa using hj.symm
    | succ j => simp at hj
  exact cell_of_blk (new_blk _ _) rfl
theorem Devs.ok {w0 W : World} {D : Nat → Option DSt} {R : List Kept3} (h : Devs w0 W D R) {i : Nat} {d : DSt} (hi : D i = some d) : d.Ok := by
  obtain ⟨hb, S, N, hd, _⟩ := h
  exact (hd i d hi).1
theorem Devs.under {w0 W : World} {D : Nat → Option DSt} {R : List Kept3} (h : Devs w0 W D R) : Below w0.heap.size w0 W := h.1
theorem Devs.pack {w0 W : World} {D : Nat → Option DSt} {R : List Kept3} (h : Devs w0 W D R) : ∃ Dx Rx, Dx = D ∧ Rx = R ∧ Devs w0 W Dx Rx := ⟨D, R, rfl, rfl, h⟩
set_option maxRecDepth 100000 in
set_option maxHeartbeats 2000000 in
theorem dev_known (w : World) : Calls Try.prog 8 #[] w fun e w' => e = .returned (.bool true) ∧ Below w.heap.size w w' := by
  have HD := Aside0.mk (Devs.none_ (Below.refl w.heap.size w))
  go_enter Try.func8, Try.ntmps8
  go_upto_region 6 with (first
    | (go_at_call_of 9 (Value.int IntKind.i64 4); refine (show Calls Try.prog 9 #[.int .i64 4] _ _ from HD.out.new 0 rfl (n := 4) (by decide) (by decide)).mono ?_; rintro e w1 ⟨p, rfl, h⟩; replace HD := Aside0.mk h; clear h)
    | (go_at_call_of 9 (Value.int IntKind.i64 3); refine (dev_new_bad (n := 3) (by decide)).mono ?_; rintro e w2 ⟨rfl, rfl⟩)
    | ((with_reducible refine gate_dst (N := 29) rfl ?_); refine Kd.R_make (Kd.int .u8) _ 5 rfl (N := 29) rfl 31 _ _ rfl 100 rfl rfl Try.underlying31 (.int .u8 0) 1 info5 rfl (by decide) (by omega) 0 (ok := fun _ => True) (okp := fun _ => True) rfl (fun _ hk => hk) trivial (by omega) (by omega) (Below.refl _ _) (Nat.le_refl _) ?_; intro v1 w3 ho hb hg_ hnew_; clear hg_ hnew_; obtain ⟨gm, cm, rfl, hgm, hcm, hOm⟩ := own_form ho (by decide); replace HD := Aside0.mk (HD.out.below hb); have HOm := Aside0.mk hOm; clear ho hb hOm)
    | (go_at_call 22; refine (show Calls Try.prog 22 #[.slice (some ⟨gm, 0, none⟩) (List.replicate (Int.toNat 100) (0 : Int)).length cm] _ _ from dev_of_bad HOm.out.reads (by decide)).mono ?_; rintro e w4 ⟨rfl, rfl⟩))
  clear HOm hcm hgm
  go_upto_region 11 with (first
    | (go_at_call 18; refine (full_ok _).mono ?_; rintro e w5 ⟨gF, cF, rfl, hgF, hcF, hOF, hBF⟩; replace HD := Aside0.mk (HD.out.below hBF); (try clear HF); have HF := Aside0.mk hOF; clear hOF hBF hgF)
    | (go_at_call_of 11 (Value.int IntKind.i64 1); have hc := HD.out.write (i := 0) rfl (by simp) (j := 1) (by simp) (by simp) HF.out.reads (by rw [List.length_replicate]; exact hcF) List.length_replicate; rw [List.length_replicate] at hc; (with_reducible refine hc.mono ?_); clear hc; rintro e w6 ⟨rfl, h⟩; replace HD := Aside0.mk h; clear h HF)
    | (go_at_call_of 11 (Value.int IntKind.i64 4); refine (HD.out.write_bad (i := 0) rfl (j := 4) (l := 64) (by omega) (.inl (by simp))).mono ?_; rintro e w6 ⟨rfl, rfl⟩)
    | (go_at_call 25; refine (show Calls Try.prog 25 #[_] _ (fun e w' => e = .returned (.int .i64 2) ∧ _ = w') from HD.out.waits (i := 0) rfl).mono ?_; rintro e w7 ⟨rfl, rfl⟩)
    | (go_at_call_of 19 (Value.int IntKind.i64 1); have hc := (show Calls Try.prog 19 #[.pointer (some ⟨p, 0, none⟩), .int .i64 1] _ _ from HD.out.read (i := 0) rfl (by simp) (j := 1) (by simp) (by simp)); (with_reducible refine hc.mono ?_); clear hc; rintro e w8 ⟨gx, cx, rfl, hgx, hcx, hOx, hBx⟩; replace HD := Aside0.mk (HD.out.row hBx hOx hgx); clear hOx hBx hgx)
    | (go_at_call_of 19 (Value.int IntKind.i64 1); have hc := (show Calls Try.prog 19 #[.pointer (some ⟨p2, 0, none⟩), .int .i64 1] _ _ from HD.out.read (i := 1) rfl (by simp) (j := 1) (by simp) (by simp)); (with_reducible refine hc.mono ?_); clear hc; rintro e w8 ⟨gz, cz, rfl, hgx, hcx, hOx, hBx⟩; replace HD := Aside0.mk (HD.out.row hBx hOx hgx); clear hOx hBx hgx)
    | (go_at_call 19; refine (HD.out.read_bad (i := 0) rfl (j := -1) (by simp)).mono ?_; rintro e w8 ⟨rfl, hBx⟩; replace HD := Aside0.mk (HD.out.below hBx); clear hBx)
    | (go_at_call 17; refine (HD.out.twin (i := 0) rfl (by simp) 1 rfl).mono ?_; rintro e w9 ⟨p2, rfl, h⟩; replace HD := Aside0.mk h; clear h)
    | (go_at_call 15; refine (HD.out.crash ((Below.refl _ _).alloc (Nat.le_refl _) _) (i := 0) rfl (ks := [true]) (C_true _) (fun a e _ => by obtain rfl := Option.some.inj e; exact ⟨by simp, .inr (Nat.le_refl _)⟩)).mono ?_; rintro e w10 ⟨rfl, h⟩; replace HD := Aside0.mk h; clear h))
  go_upto_region 18 with (first
    | (go_at_call 18; refine (full_ok _).mono ?_; rintro e w5 ⟨gF, cF, rfl, hgF, hcF, hOF, hBF⟩; replace HD := Aside0.mk (HD.out.below hBF); (try clear HF); have HF := Aside0.mk hOF; clear hOF hBF hgF)
    | (go_at_call_of 11 (Value.int IntKind.i64 1); have hc := HD.out.write (i := 0) rfl (by simp) (j := 1) (by simp) (by simp) HF.out.reads (by rw [List.length_replicate]; exact hcF) List.length_replicate; rw [List.length_replicate] at hc; (with_reducible refine hc.mono ?_); clear hc; rintro e w6 ⟨rfl, h⟩; replace HD := Aside0.mk h; clear h HF)
    | (go_at_call_of 11 (Value.int IntKind.i64 4); refine (HD.out.write_bad (i := 0) rfl (j := 4) (l := 64) (by omega) (.inl (by simp))).mono ?_; rintro e w6 ⟨rfl, rfl⟩)
    | (go_at_call 25; refine (show Calls Try.prog 25 #[_] _ (fun e w' => e = .returned (.int .i64 2) ∧ _ = w') from HD.out.waits (i := 0) rfl).mono ?_; rintro e w7 ⟨rfl, rfl⟩)
    | (go_at_call_of 19 (Value.int IntKind.i64 1); have hc := (show Calls Try.prog 19 #[.pointer (some ⟨p, 0, none⟩), .int .i64 1] _ _ from HD.out.read (i := 0) rfl (by simp) (j := 1) (by simp) (by simp)); (with_reducible refine hc.mono ?_); clear hc; rintro e w8 ⟨gy, cy, rfl, hgx, hcx, hOx, hBx⟩; replace HD := Aside0.mk (HD.out.row hBx hOx hgx); clear hOx hBx hgx)
    | (go_at_call_of 19 (Value.int IntKind.i64 1); have hc := (show Calls Try.prog 19 #[.pointer (some ⟨p2, 0, none⟩), .int .i64 1] _ _ from HD.out.read (i := 1) rfl (by simp) (j := 1) (by simp) (by simp)); (with_reducible refine hc.mono ?_); clear hc; rintro e w8 ⟨gz, cz, rfl, hgx, hcx, hOx, hBx⟩; replace HD := Aside0.mk (HD.out.row hBx hOx hgx); clear hOx hBx hgx)
    | (go_at_call 19; refine (HD.out.read_bad (i := 0) rfl (j := -1) (by simp)).mono ?_; rintro e w8 ⟨rfl, hBx⟩; replace HD := Aside0.mk (HD.out.below hBx); clear hBx)
    | (go_at_call 17; refine (HD.out.twin (i := 0) rfl (by simp) 1 rfl).mono ?_; rintro e w9 ⟨p2, rfl, h⟩; replace HD := Aside0.mk h; clear h)
    | (go_at_call 15; refine (HD.out.crash ((Below.refl _ _).alloc (Nat.le_refl _) _) (i := 0) rfl (ks := [true]) (C_true _) (fun a e _ => by obtain rfl := Option.some.inj e; exact ⟨by simp, .inr (Nat.le_refl _)⟩)).mono ?_; rintro e w10 ⟨rfl, h⟩; replace HD := Aside0.mk h; clear h))
  clear hcF hcx
  obtain ⟨Dx, Rx, hDx, hRx, h18⟩ := HD.out.pack
  clear HD
  obtain ⟨B0, hd0⟩ : ∃ B0, Dx 0 = some ⟨p, 4, B0, []⟩ := ⟨_, by rw [hDx]; rfl⟩
  have ex : rblk (List.replicate (4 * 64) 0) ([] ++ [(1, List.replicate 64 1)] ++ [(1, List.replicate 64 2)]) 1 = List.replicate 64 2 := by kernel_rfl
  have mx : (gx, cx, List.replicate 64 2) ∈ Rx := by rw [hRx, ← ex]; exact List.Mem.tail _ (List.Mem.tail _ (List.Mem.head _))
  have mz : (gz, cz, List.replicate 64 2) ∈ Rx := by rw [hRx, ← ex]; exact List.Mem.head _
  have my : (gy, cy, List.replicate 64 1) ∈ Rx := by
    rw [hRx, show List.replicate 64 (1 : Int) = rblk (aft (fun k => [true].getD k false) ([] ++ [(1, List.replicate 64 1)] ++ [(1, List.replicate 64 2)]) (List.replicate (4 * 64) 0) 2) [] 1 from by kernel_rfl]
    exact List.Mem.tail _ (List.Mem.head _)
  have cvx : Aside0 (∀ w', Devs w w' Dx Rx → (convert 31 9 (.slice (some ⟨gx, 0, none⟩) 64 cx)).run Try.prog w' = .ok (.string (strOfNums (List.replicate 64 2))) w') := ⟨fun w' h => (h.kept mx).str⟩
  have cvy : Aside0 (∀ w', Devs w w' Dx Rx → (convert 31 9 (.slice (some ⟨gy, 0, none⟩) 64 cy)).run Try.prog w' = .ok (.string (strOfNums (List.replicate 64 1))) w') := ⟨fun w' h => (h.kept my).str⟩
  have cvz : Aside0 (∀ w', Devs w w' Dx Rx → (convert 31 9 (.slice (some ⟨gz, 0, none⟩) 64 cz)).run Try.prog w' = .ok (.string (strOfNums (List.replicate 64 2))) w') := ⟨fun w' h => (h.kept mz).str⟩
  have HBL : Aside0 (B0.length = 256) := ⟨(h18.ok hd0).len⟩
  have HD0 := Aside0.mk hd0
  have H18 := Aside0.mk h18
  clear hDx hRx ex mx my mz h18 hd0
  have hS : Aside0 (∀ w', Devs w w' Dx Rx → Aside0 (Devs w w' Dx Rx) ∧ (convert 31 9 (.slice (some ⟨gx, 0, none⟩) 64 cx)).run Try.prog w' = .ok (.string (strOfNums (List.replicate 64 2))) w' ∧ (convert 31 9 (.slice (some ⟨gy, 0, none⟩) 64 cy)).run Try.prog w' = .ok (.string (strOfNums (List.replicate 64 1))) w' ∧ (convert 31 9 (.slice (some ⟨gz, 0, none⟩) 64 cz)).run Try.prog w' = .ok (.string (strOfNums (List.replicate 64 2))) w') := ⟨fun w' h => ⟨⟨h⟩, cvx.out w' h, cvy.out w' h, cvz.out w' h⟩⟩
  obtain ⟨wq, hwq⟩ : ∃ wq, wq = w8 := ⟨_, rfl⟩
  have HQ := Aside0.mk (H18.out.below (W' := w8.drew) ⟨rfl, rfl, rfl, Nat.le_refl _, fun _ _ => rfl⟩)
  have hS0 := hS.out _ HQ.out
  clear hwq H18
  simp only [List.append]
  refine wp_region_noPanic ?_
  refine wp_region_held_drew (S := (fun w' => Aside0 (Devs w w' Dx Rx) ∧ (convert 31 9 (.slice (some ⟨gx, 0, none⟩) 64 cx)).run Try.prog w' = .ok (.string (strOfNums (List.replicate 64 2))) w' ∧ (convert 31 9 (.slice (some ⟨gy, 0, none⟩) 64 cy)).run Try.prog w' = .ok (.string (strOfNums (List.replicate 64 1))) w' ∧ (convert 31 9 (.slice (some ⟨gz, 0, none⟩) 64 cz)).run Try.prog w' = .ok (.string (strOfNums (List.replicate 64 2))) w')) (by kernel_rfl) ?_ (fun hHeld => ?_)
  · (try dsimp only) <;> (first | assumption | exact hS0)
  refine held_take 0 (v := ?_) rfl (by kernel_rfl) (fun _ _ _ h => h) (by rfl) ?_ (by assumption) ?_
  rotate_left 1
  · (intro w hSw; (try dsimp only at hSw); go_simp)
    all_goals with_reducible rfl
  (try simp only [Act.put, List.setIfInBounds_toArray, List.set_cons_zero, List.set_cons_succ])
  refine held_take 1 (v := ?_) rfl (by kernel_rfl) (fun _ _ _ h => h) (by rfl) ?_ (by assumption) ?_
  rotate_left 1
  · (intro w hSw; (try dsimp only at hSw); go_simp)
    all_goals with_reducible rfl
  (try simp only [Act.put, List.setIfInBounds_toArray, List.set_cons_zero, List.set_cons_succ])
  refine held_take 2 (v := ?_) rfl (by kernel_rfl) (fun _ _ _ h => h) (by rfl) ?_ (by assumption) ?_
  rotate_left 1
  · (intro w hSw; (try dsimp only at hSw); go_simp)
    all_goals with_reducible rfl
  (try simp only [Act.put, List.setIfInBounds_toArray, List.set_cons_zero, List.set_cons_succ])
  refine held_take 3 (v := ?_) rfl (by kernel_rfl) (fun _ _ _ h => h) (by rfl) ?_ (by assumption) ?_
  rotate_left 1
  · (intro w hSw; (try dsimp only at hSw); go_simp)
    all_goals with_reducible rfl
  (try simp only [Act.put, List.setIfInBounds_toArray, List.set_cons_zero, List.set_cons_succ])
  refine held_take 4 (v := ?_) rfl (by kernel_rfl) (fun _ _ _ h => h) (by rfl) ?_ (by assumption) ?_
  rotate_left 1
  · (intro w hSw; (try dsimp only at hSw); go_simp)
    all_goals with_reducible rfl
  (try simp only [Act.put, List.setIfInBounds_toArray, List.set_cons_zero, List.set_cons_succ])
  refine held_take 5 (v := ?_) rfl (by kernel_rfl) (fun _ _ _ h => h) (by rfl) ?_ (by assumption) ?_
  rotate_left 1
  · (intro w hSw; (try dsimp only at hSw); go_simp)
    all_goals with_reducible rfl
  (try simp only [Act.put, List.setIfInBounds_toArray, List.set_cons_zero, List.set_cons_succ])
  refine held_take 6 (v := ?_) rfl (by kernel_rfl) (fun _ _ _ h => h) (by rfl) ?_ (by assumption) ?_
  rotate_left 1
  · (intro w hSw; (try dsimp only at hSw); go_simp)
    all_goals with_reducible rfl
  (try simp only [Act.put, List.setIfInBounds_toArray, List.set_cons_zero, List.set_cons_succ])
  refine held_take 7 (v := ?_) rfl (by kernel_rfl) (fun _ _ _ h => h) (by rfl) ?_ (by assumption) ?_
  rotate_left 1
  · (intro w hSw; (try dsimp only at hSw); go_simp)
    all_goals with_reducible rfl
  (try simp only [Act.put, List.setIfInBounds_toArray, List.set_cons_zero, List.set_cons_succ])
  refine held_take 8 (v := ?_) rfl (by kernel_rfl) (fun _ _ _ h => h) (by rfl) ?_ (by assumption) ?_
  rotate_left 1
  · (intro w hSw; (try dsimp only at hSw); go_simp)
    all_goals with_reducible rfl
  (try simp only [Act.put, List.setIfInBounds_toArray, List.set_cons_zero, List.set_cons_succ])
  refine held_take 9 (v := ?_) rfl (by kernel_rfl) (fun _ _ _ h => h) (by rfl) ?_ (by assumption) ?_
  rotate_left 1
  · (intro w hSw; (try dsimp only at hSw); go_simp)
    all_goals with_reducible rfl
  (try simp only [Act.put, List.setIfInBounds_toArray, List.set_cons_zero, List.set_cons_succ])
  refine held_take 10 (v := ?_) rfl (by kernel_rfl) (fun _ _ _ h => h) (by rfl) ?_ (by assumption) ?_
  rotate_left 1
  · (intro w hSw; (try dsimp only at hSw); go_simp)
    all_goals with_reducible rfl
  (try simp only [Act.put, List.setIfInBounds_toArray, List.set_cons_zero, List.set_cons_succ])
  refine held_take 11 (v := ?_) rfl (by kernel_rfl) (fun _ _ _ h => h) (by rfl) ?_ (by assumption) ?_
  rotate_left 1
  · (intro w hSw; (try dsimp only at hSw); go_simp)
    all_goals with_reducible rfl
  (try simp only [Act.put, List.setIfInBounds_toArray, List.set_cons_zero, List.set_cons_succ])
  refine held_take 12 (v := ?_) rfl (by kernel_rfl) (fun _ _ _ h => h) (by rfl) ?_ (by assumption) ?_
  rotate_left 1
  · (intro w hSw; (try dsimp only at hSw); go_simp)
    all_goals with_reducible rfl
  (try simp only [Act.put, List.setIfInBounds_toArray, List.set_cons_zero, List.set_cons_succ])
  refine held_take 13 (v := ?_) rfl (by kernel_rfl) (fun _ _ _ h => h) (by rfl) ?_ (by assumption) ?_
  rotate_left 1
  · (intro w hSw; (try dsimp only at hSw); go_simp)
    all_goals with_reducible rfl
  (try simp only [Act.put, List.setIfInBounds_toArray, List.set_cons_zero, List.set_cons_succ])
  refine held_take 14 (v := ?_) rfl (by kernel_rfl) (fun _ _ _ h => h) (by rfl) ?_ (by assumption) ?_
  rotate_left 1
  · (intro w hSw; (try dsimp only at hSw); go_simp)
    all_goals with_reducible rfl
  (try simp only [Act.put, List.setIfInBounds_toArray, List.set_cons_zero, List.set_cons_succ])
  refine held_take 15 (v := ?_) rfl (by kernel_rfl) (fun _ _ _ h => h) (by rfl) ?_ (by assumption) ?_
  rotate_left 1
  · (intro w hSw; (try dsimp only at hSw); go_simp)
    all_goals with_reducible rfl
  (try simp only [Act.put, List.setIfInBounds_toArray, List.set_cons_zero, List.set_cons_succ])
  refine held_take 16 (v := ?_) rfl (by kernel_rfl) (fun _ _ _ h => h) (by rfl) ?_ (by assumption) ?_
  rotate_left 1
  · (intro w hSw; (try dsimp only at hSw); go_simp)
    all_goals with_reducible rfl
  (try simp only [Act.put, List.setIfInBounds_toArray, List.set_cons_zero, List.set_cons_succ])
  refine held_take 17 (v := ?_) rfl (by kernel_rfl) (fun _ _ _ h => h) (by rfl) ?_ (by assumption) ?_
  rotate_left 1
  · (intro w hSw; (try dsimp only at hSw); go_simp)
    all_goals with_reducible rfl
  (try simp only [Act.put, List.setIfInBounds_toArray, List.set_cons_zero, List.set_cons_succ])
  refine held_take 18 (v := ?_) rfl (by kernel_rfl) (fun _ _ _ h => h) (by rfl) ?_ (by assumption) ?_
  rotate_left 1
  · (intro w hSw; (try dsimp only at hSw); go_simp)
    all_goals with_reducible rfl
  (try simp only [Act.put, List.setIfInBounds_toArray, List.set_cons_zero, List.set_cons_succ])
  refine held_take 19 (v := ?_) rfl (by kernel_rfl) (fun _ _ _ h => h) (by rfl) ?_ (by assumption) ?_
  rotate_left 1
  · (intro w hSw; (try dsimp only at hSw); go_simp)
    all_goals with_reducible rfl
  (try simp only [Act.put, List.setIfInBounds_toArray, List.set_cons_zero, List.set_cons_succ])
  refine held_take 20 (v := ?_) rfl (by kernel_rfl) (fun _ _ _ h => h) (by rfl) ?_ (by assumption) ?_
  rotate_left 1
  · (intro w hSw; (try dsimp only at hSw); go_simp)
    all_goals with_reducible rfl
  (try simp only [Act.put, List.setIfInBounds_toArray, List.set_cons_zero, List.set_cons_succ])
  refine held_take 21 (v := ?_) rfl (by kernel_rfl) (fun _ _ _ h => h) (by rfl) ?_ (by assumption) ?_
  rotate_left 1
  · (intro w hSw; (try dsimp only at hSw); go_simp)
    all_goals with_reducible rfl
  (try simp only [Act.put, List.setIfInBounds_toArray, List.set_cons_zero, List.set_cons_succ])
  refine held_take 22 (v := ?_) rfl (by kernel_rfl) (fun _ _ _ h => h) (by rfl) ?_ (by assumption) ?_
  rotate_left 1
  · (intro w hSw; (try dsimp only at hSw); go_simp)
    all_goals with_reducible rfl
  (try simp only [Act.put, List.setIfInBounds_toArray, List.set_cons_zero, List.set_cons_succ])
  refine held_take 23 (v := ?_) rfl (by kernel_rfl) (fun _ _ _ h => h) (by rfl) ?_ (by assumption) ?_
  rotate_left 1
  · (intro w hSw; (try dsimp only at hSw); go_simp)
    all_goals with_reducible rfl
  (try simp only [Act.put, List.setIfInBounds_toArray, List.set_cons_zero, List.set_cons_succ])
  refine held_take 24 (v := ?_) rfl (by kernel_rfl) (fun _ _ _ h => h) (by rfl) ?_ (by assumption) ?_
  rotate_left 1
  · (intro w hSw; (try dsimp only at hSw); go_simp)
    all_goals with_reducible rfl
  (try simp only [Act.put, List.setIfInBounds_toArray, List.set_cons_zero, List.set_cons_succ])
  refine held_take 25 (v := ?_) rfl (by kernel_rfl) (fun _ _ _ h => h) (by rfl) ?_ (by assumption) ?_
  rotate_left 1
  · (intro w hSw; (try dsimp only at hSw); go_simp)
    all_goals with_reducible rfl
  (try simp only [Act.put, List.setIfInBounds_toArray, List.set_cons_zero, List.set_cons_succ])
  refine held_take 26 (v := ?_) rfl (by kernel_rfl) (fun _ _ _ h => h) (by rfl) ?_ (by assumption) ?_
  rotate_left 1
  · (intro w hSw; (try dsimp only at hSw); go_simp)
    all_goals with_reducible rfl
  (try simp only [Act.put, List.setIfInBounds_toArray, List.set_cons_zero, List.set_cons_succ])
  refine held_take 27 (v := ?_) rfl (by kernel_rfl) (fun _ _ _ h => h) (by rfl) ?_ (by assumption) ?_
  rotate_left 1
  · (intro w hSw; (try dsimp only at hSw); go_simp)
    all_goals with_reducible rfl
  (try simp only [Act.put, List.setIfInBounds_toArray, List.set_cons_zero, List.set_cons_succ])
  refine held_take 28 (v := ?_) rfl (by kernel_rfl) (fun _ _ _ h => h) (by rfl) ?_ (by assumption) ?_
  rotate_left 1
  · (intro w hSw; (try dsimp only at hSw); go_simp)
    all_goals with_reducible rfl
  (try simp only [Act.put, List.setIfInBounds_toArray, List.set_cons_zero, List.set_cons_succ])
  refine held_take 29 (v := ?_) rfl (by kernel_rfl) (fun _ _ _ h => h) (by rfl) ?_ (by assumption) ?_
  rotate_left 1
  · (intro w hSw; (try dsimp only at hSw); go_simp)
    all_goals with_reducible rfl
  (try simp only [Act.put, List.setIfInBounds_toArray, List.set_cons_zero, List.set_cons_succ])
  refine held_take 30 (v := ?_) rfl (by kernel_rfl) (fun _ _ _ h => h) (by rfl) ?_ (by assumption) ?_
  rotate_left 1
  · (intro w hSw; (try dsimp only at hSw); go_simp)
    all_goals with_reducible rfl
  (try simp only [Act.put, List.setIfInBounds_toArray, List.set_cons_zero, List.set_cons_succ])
  refine held_take 31 (v := ?_) rfl (by kernel_rfl) (fun _ _ _ h => h) (by rfl) ?_ (by assumption) ?_
  rotate_left 1
  · (intro w hSw; (try dsimp only at hSw); go_simp)
    all_goals with_reducible rfl
  (try simp only [Act.put, List.setIfInBounds_toArray, List.set_cons_zero, List.set_cons_succ])
  refine wpAnyH_ready (rs := [32]) (by kernel_rfl) (by simp) ?_
  refine held_step 32 rfl (fun K hK => ?_) ?_
  · go_simp
    go_wp2_with (first | (go_at_call 25; refine (HQ.out.waits (i := 0) HD0.out).mono ?_; rintro e w7 ⟨rfl, rfl⟩) | (go_at_call 26; refine (HQ.out.blocks (i := 0) HD0.out).mono ?_; rintro e w7 ⟨rfl, rfl⟩) | (go_at_call 18; refine (full_ok _).mono ?_; rintro e w5 ⟨gF, cF, rfl, hgF, hcF, hOF, hBF⟩; replace HQ := Aside0.mk (HQ.out.below hBF); have hS1 := hS.out _ HQ.out; have hcF1 : (convert 31 9 (.slice (some ⟨gF, 0, none⟩) 64 cF)).run Try.prog w5 = _ := hOF.str; clear hOF hBF hgF hcF) | (go_at_call 24; have hc := HQ.out.bytes (i := 0) HD0.out (by simp); simp only [List.length_nil, aft] at hc; rw [HBL.out] at hc; (with_reducible refine hc.mono ?_); clear hc; rintro e w5 ⟨gF, cF, rfl, hgF, hcF, hOF, hBF⟩; replace HQ := Aside0.mk (HQ.out.below hBF); have hS1 := hS.out _ HQ.out; clear hOF hgF hBF hcF) | (go_at_call 11; refine (HQ.out.write_bad (i := 0) HD0.out (j := 0) (l := 0) (by omega) (.inr (by omega))).mono ?_; rintro e w6 ⟨rfl, rfl⟩))
    refine hK.out _ _ ?_ ?_
    · (try dsimp only) <;> (first | assumption | exact hS0)
    clear hK K hHeld
    intro hHeld
    (try simp only [Act.put, List.setIfInBounds_toArray, List.set_cons_zero, List.set_cons_succ])
    refine held_take 33 (v := ?_) rfl (by kernel_rfl) (fun _ _ _ h => h) (by rfl) ?_ (by assumption) ?_
    rotate_left 1
    · (intro w hSw; (try dsimp only at hSw); go_simp)
      all_goals with_reducible rfl
    (try simp only [Act.put, List.setIfInBounds_toArray, List.set_cons_zero, List.set_cons_succ])
    refine held_take 34 (v := ?_) rfl (by kernel_rfl) (fun _ _ _ h => h) (by rfl) ?_ (by assumption) ?_
    rotate_left 1
    · (intro w hSw; (try dsimp only at hSw); go_simp)
      all_goals with_reducible rfl
    (try simp only [Act.put, List.setIfInBounds_toArray, List.set_cons_zero, List.set_cons_succ])
    refine held_take 35 (v := ?_) rfl (by kernel_rfl) (fun _ _ _ h => h) (by rfl) ?_ (by assumption) ?_
    rotate_left 1
    · (intro w hSw; (try dsimp only at hSw); go_simp)
      all_goals with_reducible rfl
    (try simp only [Act.put, List.setIfInBounds_toArray, List.set_cons_zero, List.set_cons_succ])
    refine held_take 36 (v := ?_) rfl (by kernel_rfl) (fun _ _ _ h => h) (by rfl) ?_ (by assumption) ?_
    rotate_left 1
    · (intro w hSw; (try dsimp only at hSw); go_simp)
      all_goals with_reducible rfl
    (try simp only [Act.put, List.setIfInBounds_toArray, List.set_cons_zero, List.set_cons_succ])
    refine held_take 37 (v := ?_) rfl (by kernel_rfl) (fun _ _ _ h => h) (by rfl) ?_ (by assumption) ?_
    rotate_left 1
    · (intro w hSw; (try dsimp only at hSw); go_simp)
      all_goals with_reducible rfl
    (try simp only [Act.put, List.setIfInBounds_toArray, List.set_cons_zero, List.set_cons_succ])
    refine wpAnyH_ready (rs := [38]) (by kernel_rfl) (by simp) ?_
    refine held_step 38 rfl (fun K hK => ?_) ?_
    · go_simp
      go_wp2_with (first | (go_at_call 25; refine (HQ.out.waits (i := 0) HD0.out).mono ?_; rintro e w7 ⟨rfl, rfl⟩) | (go_at_call 26; refine (HQ.out.blocks (i := 0) HD0.out).mono ?_; rintro e w7 ⟨rfl, rfl⟩) | (go_at_call 18; refine (full_ok _).mono ?_; rintro e w5 ⟨gF, cF, rfl, hgF, hcF, hOF, hBF⟩; replace HQ := Aside0.mk (HQ.out.below hBF); have hS1 := hS.out _ HQ.out; have hcF1 : (convert 31 9 (.slice (some ⟨gF, 0, none⟩) 64 cF)).run Try.prog w5 = _ := hOF.str; clear hOF hBF hgF hcF) | (go_at_call 24; have hc := HQ.out.bytes (i := 0) HD0.out (by simp); simp only [List.length_nil, aft] at hc; rw [HBL.out] at hc; (with_reducible refine hc.mono ?_); clear hc; rintro e w5 ⟨gF, cF, rfl, hgF, hcF, hOF, hBF⟩; replace HQ := Aside0.mk (HQ.out.below hBF); have hS1 := hS.out _ HQ.out; clear hOF hgF hBF hcF) | (go_at_call 11; refine (HQ.out.write_bad (i := 0) HD0.out (j := 0) (l := 0) (by omega) (.inr (by omega))).mono ?_; rintro e w6 ⟨rfl, rfl⟩))
      refine hK.out _ _ ?_ ?_
      · (try dsimp only) <;> (first | assumption | exact hS0)
      clear hK K hHeld
      intro hHeld
      (try simp only [Act.put, List.setIfInBounds_toArray, List.set_cons_zero, List.set_cons_succ])
      refine wpAnyH_ready (rs := [39]) (by kernel_rfl) (by simp) ?_
      refine held_step 39 rfl (fun K hK => ?_) ?_
      · go_simp
        refine hK.out _ _ ?_ ?_
        · (try dsimp only) <;> (first | assumption | exact hS0)
        clear hK K hHeld
        intro hHeld
        (try simp only [Act.put, List.setIfInBounds_toArray, List.set_cons_zero, List.set_cons_succ])
        refine held_take 40 (v := ?_) rfl (by kernel_rfl) (fun _ _ _ h => h) (by rfl) ?_ (by assumption) ?_
        rotate_left 1
        · (intro w hSw; (try dsimp only at hSw); go_simp)
          all_goals with_reducible rfl
        (try simp only [Act.put, List.setIfInBounds_toArray, List.set_cons_zero, List.set_cons_succ])
        refine held_take 41 (v := ?_) rfl (by kernel_rfl) (fun _ _ _ h => h) (by rfl) ?_ (by assumption) ?_
        rotate_left 1
        · (intro w hSw; (try dsimp only at hSw); go_simp)
          all_goals with_reducible rfl
        (try simp only [Act.put, List.setIfInBounds_toArray, List.set_cons_zero, List.set_cons_succ])
        refine held_take 42 (v := ?_) rfl (by kernel_rfl) (fun _ _ _ h => h) (by rfl) ?_ (by assumption) ?_
        rotate_left 1
        · (intro w hSw; (try dsimp only at hSw); go_simp)
          all_goals with_reducible rfl
        (try simp only [Act.put, List.setIfInBounds_toArray, List.set_cons_zero, List.set_cons_succ])
        refine held_take 43 (v := ?_) rfl (by kernel_rfl) (fun _ _ _ h => h) (by rfl) ?_ (by assumption) ?_
        rotate_left 1
        · (intro w hSw; (try dsimp only at hSw); go_simp)
          all_goals with_reducible rfl
        (try simp only [Act.put, List.setIfInBounds_toArray, List.set_cons_zero, List.set_cons_succ])
        refine held_take 44 (v := ?_) rfl (by kernel_rfl) (fun _ _ _ h => h) (by rfl) ?_ (by assumption) ?_
        rotate_left 1
        · (intro w hSw; (try dsimp only at hSw); go_simp)
          all_goals with_reducible rfl
        (try simp only [Act.put, List.setIfInBounds_toArray, List.set_cons_zero, List.set_cons_succ])
        refine wpAnyH_ready (rs := [45]) (by kernel_rfl) (by simp) ?_
        refine held_step 45 rfl (fun K hK => ?_) ?_
        · go_simp
          go_wp2_with (first | (go_at_call 25; refine (HQ.out.waits (i := 0) HD0.out).mono ?_; rintro e w7 ⟨rfl, rfl⟩) | (go_at_call 26; refine (HQ.out.blocks (i := 0) HD0.out).mono ?_; rintro e w7 ⟨rfl, rfl⟩) | (go_at_call 18; refine (full_ok _).mono ?_; rintro e w5 ⟨gF, cF, rfl, hgF, hcF, hOF, hBF⟩; replace HQ := Aside0.mk (HQ.out.below hBF); have hS1 := hS.out _ HQ.out; have hcF1 : (convert 31 9 (.slice (some ⟨gF, 0, none⟩) 64 cF)).run Try.prog w5 = _ := hOF.str; clear hOF hBF hgF hcF) | (go_at_call 24; have hc := HQ.out.bytes (i := 0) HD0.out (by simp); simp only [List.length_nil, aft] at hc; rw [HBL.out] at hc; (with_reducible refine hc.mono ?_); clear hc; rintro e w5 ⟨gF, cF, rfl, hgF, hcF, hOF, hBF⟩; replace HQ := Aside0.mk (HQ.out.below hBF); have hS1 := hS.out _ HQ.out; clear hOF hgF hBF hcF) | (go_at_call 11; refine (HQ.out.write_bad (i := 0) HD0.out (j := 0) (l := 0) (by omega) (.inr (by omega))).mono ?_; rintro e w6 ⟨rfl, rfl⟩))
          refine hK.out _ _ ?_ ?_
          · (try dsimp only) <;> (first | assumption | exact hS0)
          clear hK K hHeld
          intro hHeld
          (try simp only [Act.put, List.setIfInBounds_toArray, List.set_cons_zero, List.set_cons_succ])
          refine wpAnyH_ready (rs := [46]) (by kernel_rfl) (by simp) ?_
          refine held_step 46 rfl (fun K hK => ?_) ?_
          · go_simp
            refine hK.out _ _ ?_ ?_
            · (try dsimp only) <;> (first | assumption | exact hS0)
            clear hK K hHeld
            intro hHeld
            (try simp only [Act.put, List.setIfInBounds_toArray, List.set_cons_zero, List.set_cons_succ])
            refine held_take 47 (v := ?_) rfl (by kernel_rfl) (fun _ _ _ h => h) (by rfl) ?_ (by assumption) ?_
            rotate_left 1
            · (intro w hSw; (try dsimp only at hSw); go_simp)
              all_goals with_reducible rfl
            (try simp only [Act.put, List.setIfInBounds_toArray, List.set_cons_zero, List.set_cons_succ])
            refine held_take 48 (v := ?_) rfl (by kernel_rfl) (fun _ _ _ h => h) (by rfl) ?_ (by assumption) ?_
            rotate_left 1
            · (intro w hSw; (try dsimp only at hSw); go_simp)
              all_goals with_reducible rfl
            (try simp only [Act.put, List.setIfInBounds_toArray, List.set_cons_zero, List.set_cons_succ])
            refine held_take 49 (v := ?_) rfl (by kernel_rfl) (fun _ _ _ h => h) (by rfl) ?_ (by assumption) ?_
            rotate_left 1
            · (intro w hSw; (try dsimp only at hSw); go_simp)
              all_goals with_reducible rfl
            (try simp only [Act.put, List.setIfInBounds_toArray, List.set_cons_zero, List.set_cons_succ])
            refine held_take 50 (v := ?_) rfl (by kernel_rfl) (fun _ _ _ h => h) (by rfl) ?_ (by assumption) ?_
            rotate_left 1
            · (intro w hSw; (try dsimp only at hSw); go_simp)
              all_goals with_reducible rfl
            (try simp only [Act.put, List.setIfInBounds_toArray, List.set_cons_zero, List.set_cons_succ])
            refine held_take 51 (v := ?_) rfl (by kernel_rfl) (fun _ _ _ h => h) (by rfl) ?_ (by assumption) ?_
            rotate_left 1
            · (intro w hSw; (try dsimp only at hSw); go_simp)
              all_goals with_reducible rfl
            (try simp only [Act.put, List.setIfInBounds_toArray, List.set_cons_zero, List.set_cons_succ])
            refine wpAnyH_ready (rs := [52]) (by kernel_rfl) (by simp) ?_
            refine held_step 52 rfl (fun K hK => ?_) ?_
            · go_simp
              go_wp2_with (first | (go_at_call 25; refine (HQ.out.waits (i := 0) HD0.out).mono ?_; rintro e w7 ⟨rfl, rfl⟩) | (go_at_call 26; refine (HQ.out.blocks (i := 0) HD0.out).mono ?_; rintro e w7 ⟨rfl, rfl⟩) | (go_at_call 18; refine (full_ok _).mono ?_; rintro e w5 ⟨gF, cF, rfl, hgF, hcF, hOF, hBF⟩; replace HQ := Aside0.mk (HQ.out.below hBF); have hS1 := hS.out _ HQ.out; have hcF1 : (convert 31 9 (.slice (some ⟨gF, 0, none⟩) 64 cF)).run Try.prog w5 = _ := hOF.str; clear hOF hBF hgF hcF) | (go_at_call 24; have hc := HQ.out.bytes (i := 0) HD0.out (by simp); simp only [List.length_nil, aft] at hc; rw [HBL.out] at hc; (with_reducible refine hc.mono ?_); clear hc; rintro e w5 ⟨gF, cF, rfl, hgF, hcF, hOF, hBF⟩; replace HQ := Aside0.mk (HQ.out.below hBF); have hS1 := hS.out _ HQ.out; clear hOF hgF hBF hcF) | (go_at_call 11; refine (HQ.out.write_bad (i := 0) HD0.out (j := 0) (l := 0) (by omega) (.inr (by omega))).mono ?_; rintro e w6 ⟨rfl, rfl⟩))
              refine hK.out _ _ ?_ ?_
              · (try dsimp only) <;> (first | assumption | exact hS0)
              clear hK K hHeld
              intro hHeld
              (try simp only [Act.put, List.setIfInBounds_toArray, List.set_cons_zero, List.set_cons_succ])
              refine wpAnyH_ready (rs := [53]) (by kernel_rfl) (by simp) ?_
              refine held_step 53 rfl (fun K hK => ?_) ?_
              · go_simp
                refine hK.out _ _ ?_ ?_
                · (try dsimp only) <;> (first | assumption | exact hS0)
                clear hK K hHeld
                intro hHeld
                (try simp only [Act.put, List.setIfInBounds_toArray, List.set_cons_zero, List.set_cons_succ])
                refine held_take 54 (v := ?_) rfl (by kernel_rfl) (fun _ _ _ h => h) (by rfl) ?_ (by assumption) ?_
                rotate_left 1
                · (intro w hSw; (try dsimp only at hSw); go_simp)
                  all_goals with_reducible rfl
                (try simp only [Act.put, List.setIfInBounds_toArray, List.set_cons_zero, List.set_cons_succ])
                refine held_take 55 (v := ?_) rfl (by kernel_rfl) (fun _ _ _ h => h) (by rfl) ?_ (by assumption) ?_
                rotate_left 1
                · (intro w hSw; (try dsimp only at hSw); go_simp)
                  all_goals with_reducible rfl
                (try simp only [Act.put, List.setIfInBounds_toArray, List.set_cons_zero, List.set_cons_succ])
                refine held_take 56 (v := ?_) rfl (by kernel_rfl) (fun _ _ _ h => h) (by rfl) ?_ (by assumption) ?_
                rotate_left 1
                · (intro w hSw; (try dsimp only at hSw); go_simp)
                  all_goals with_reducible rfl
                (try simp only [Act.put, List.setIfInBounds_toArray, List.set_cons_zero, List.set_cons_succ])
                refine held_take 57 (v := ?_) rfl (by kernel_rfl) (fun _ _ _ h => h) (by rfl) ?_ (by assumption) ?_
                rotate_left 1
                · (intro w hSw; (try dsimp only at hSw); go_simp)
                  all_goals with_reducible rfl
                (try simp only [Act.put, List.setIfInBounds_toArray, List.set_cons_zero, List.set_cons_succ])
                refine wpAnyH_ready (rs := [58]) (by kernel_rfl) (by simp) ?_
                refine held_step 58 rfl (fun K hK => ?_) ?_
                · go_simp
                  go_wp2_with (first | (go_at_call 25; refine (HQ.out.waits (i := 0) HD0.out).mono ?_; rintro e w7 ⟨rfl, rfl⟩) | (go_at_call 26; refine (HQ.out.blocks (i := 0) HD0.out).mono ?_; rintro e w7 ⟨rfl, rfl⟩) | (go_at_call 18; refine (full_ok _).mono ?_; rintro e w5 ⟨gF, cF, rfl, hgF, hcF, hOF, hBF⟩; replace HQ := Aside0.mk (HQ.out.below hBF); have hS1 := hS.out _ HQ.out; have hcF1 : (convert 31 9 (.slice (some ⟨gF, 0, none⟩) 64 cF)).run Try.prog w5 = _ := hOF.str; clear hOF hBF hgF hcF) | (go_at_call 24; have hc := HQ.out.bytes (i := 0) HD0.out (by simp); simp only [List.length_nil, aft] at hc; rw [HBL.out] at hc; (with_reducible refine hc.mono ?_); clear hc; rintro e w5 ⟨gF, cF, rfl, hgF, hcF, hOF, hBF⟩; replace HQ := Aside0.mk (HQ.out.below hBF); have hS1 := hS.out _ HQ.out; clear hOF hgF hBF hcF) | (go_at_call 11; refine (HQ.out.write_bad (i := 0) HD0.out (j := 0) (l := 0) (by omega) (.inr (by omega))).mono ?_; rintro e w6 ⟨rfl, rfl⟩))
                  refine hK.out _ _ ?_ ?_
                  · (try dsimp only) <;> (first | assumption | exact hS0)
                  clear hK K hHeld
                  intro hHeld
                  (try simp only [Act.put, List.setIfInBounds_toArray, List.set_cons_zero, List.set_cons_succ])
                  refine held_take 59 (v := ?_) rfl (by kernel_rfl) (fun _ _ _ h => h) (by rfl) ?_ (by assumption) ?_
                  rotate_left 1
                  · (intro w hSw; (try dsimp only at hSw); go_simp)
                    all_goals with_reducible rfl
                  (try simp only [Act.put, List.setIfInBounds_toArray, List.set_cons_zero, List.set_cons_succ])
                  refine held_take 60 (v := ?_) rfl (by kernel_rfl) (fun _ _ _ h => h) (by rfl) ?_ (by assumption) ?_
                  rotate_left 1
                  · (intro w hSw; (try dsimp only at hSw); go_simp)
                    all_goals with_reducible rfl
                  (try simp only [Act.put, List.setIfInBounds_toArray, List.set_cons_zero, List.set_cons_succ])
                  refine held_take 61 (v := ?_) rfl (by kernel_rfl) (fun _ _ _ h => h) (by rfl) ?_ (by assumption) ?_
                  rotate_left 1
                  · (intro w hSw; (try dsimp only at hSw); go_simp)
                    all_goals with_reducible rfl
                  (try simp only [Act.put, List.setIfInBounds_toArray, List.set_cons_zero, List.set_cons_succ])
                  refine held_take 62 (v := ?_) rfl (by kernel_rfl) (fun _ _ _ h => h) (by rfl) ?_ (by assumption) ?_
                  rotate_left 1
                  · (intro w hSw; (try dsimp only at hSw); go_simp)
                    all_goals with_reducible rfl
                  (try simp only [Act.put, List.setIfInBounds_toArray, List.set_cons_zero, List.set_cons_succ])
                  refine wpAnyH_ready (rs := [63]) (by kernel_rfl) (by simp) ?_
                  refine held_step 63 rfl (fun K hK => ?_) ?_
                  · go_simp
                    go_wp2_with (first | (go_at_call 25; refine (HQ.out.waits (i := 0) HD0.out).mono ?_; rintro e w7 ⟨rfl, rfl⟩) | (go_at_call 26; refine (HQ.out.blocks (i := 0) HD0.out).mono ?_; rintro e w7 ⟨rfl, rfl⟩) | (go_at_call 18; refine (full_ok _).mono ?_; rintro e w5 ⟨gF, cF, rfl, hgF, hcF, hOF, hBF⟩; replace HQ := Aside0.mk (HQ.out.below hBF); have hS1 := hS.out _ HQ.out; have hcF1 : (convert 31 9 (.slice (some ⟨gF, 0, none⟩) 64 cF)).run Try.prog w5 = _ := hOF.str; clear hOF hBF hgF hcF) | (go_at_call 24; have hc := HQ.out.bytes (i := 0) HD0.out (by simp); simp only [List.length_nil, aft] at hc; rw [HBL.out] at hc; (with_reducible refine hc.mono ?_); clear hc; rintro e w5 ⟨gF, cF, rfl, hgF, hcF, hOF, hBF⟩; replace HQ := Aside0.mk (HQ.out.below hBF); have hS1 := hS.out _ HQ.out; clear hOF hgF hBF hcF) | (go_at_call 11; refine (HQ.out.write_bad (i := 0) HD0.out (j := 0) (l := 0) (by omega) (.inr (by omega))).mono ?_; rintro e w6 ⟨rfl, rfl⟩))
                    refine hK.out _ _ ?_ ?_
                    · (try dsimp only) <;> (first | assumption | exact hS0)
                    clear hK K hHeld
                    intro hHeld
                    (try simp only [Act.put, List.setIfInBounds_toArray, List.set_cons_zero, List.set_cons_succ])
                    refine held_take 64 (v := ?_) rfl (by kernel_rfl) (fun _ _ _ h => h) (by rfl) ?_ (by assumption) ?_
                    rotate_left 1
                    · (intro w hSw; (try dsimp only at hSw); go_simp)
                      all_goals with_reducible rfl
                    (try simp only [Act.put, List.setIfInBounds_toArray, List.set_cons_zero, List.set_cons_succ])
                    refine held_take 65 (v := ?_) rfl (by kernel_rfl) (fun _ _ _ h => h) (by rfl) ?_ (by assumption) ?_
                    rotate_left 1
                    · (intro w hSw; (try dsimp only at hSw); go_simp)
                      all_goals with_reducible rfl
                    (try simp only [Act.put, List.setIfInBounds_toArray, List.set_cons_zero, List.set_cons_succ])
                    refine held_take 66 (v := ?_) rfl (by kernel_rfl) (fun _ _ _ h => h) (by rfl) ?_ (by assumption) ?_
                    rotate_left 1
                    · (intro w hSw; (try dsimp only at hSw); go_simp)
                      all_goals with_reducible rfl
                    (try simp only [Act.put, List.setIfInBounds_toArray, List.set_cons_zero, List.set_cons_succ])
                    refine held_take 67 (v := ?_) rfl (by kernel_rfl) (fun _ _ _ h => h) (by rfl) ?_ (by assumption) ?_
                    rotate_left 1
                    · (intro w hSw; (try dsimp only at hSw); go_simp)
                      all_goals with_reducible rfl
                    (try simp only [Act.put, List.setIfInBounds_toArray, List.set_cons_zero, List.set_cons_succ])
                    refine held_take 68 (v := ?_) rfl (by kernel_rfl) (fun _ _ _ h => h) (by rfl) ?_ (by assumption) ?_
                    rotate_left 1
                    · (intro w hSw; (try dsimp only at hSw); go_simp)
                      all_goals with_reducible rfl
                    (try simp only [Act.put, List.setIfInBounds_toArray, List.set_cons_zero, List.set_cons_succ])
                    refine wpAnyH_ready (rs := [69]) (by kernel_rfl) (by simp) ?_
                    refine held_step 69 rfl (fun K hK => ?_) ?_
                    · go_simp
                      go_wp2_with (first | (go_at_call 25; refine (HQ.out.waits (i := 0) HD0.out).mono ?_; rintro e w7 ⟨rfl, rfl⟩) | (go_at_call 26; refine (HQ.out.blocks (i := 0) HD0.out).mono ?_; rintro e w7 ⟨rfl, rfl⟩) | (go_at_call 18; refine (full_ok _).mono ?_; rintro e w5 ⟨gF, cF, rfl, hgF, hcF, hOF, hBF⟩; replace HQ := Aside0.mk (HQ.out.below hBF); have hS1 := hS.out _ HQ.out; have hcF1 : (convert 31 9 (.slice (some ⟨gF, 0, none⟩) 64 cF)).run Try.prog w5 = _ := hOF.str; clear hOF hBF hgF hcF) | (go_at_call 24; have hc := HQ.out.bytes (i := 0) HD0.out (by simp); simp only [List.length_nil, aft] at hc; rw [HBL.out] at hc; (with_reducible refine hc.mono ?_); clear hc; rintro e w5 ⟨gF, cF, rfl, hgF, hcF, hOF, hBF⟩; replace HQ := Aside0.mk (HQ.out.below hBF); have hS1 := hS.out _ HQ.out; clear hOF hgF hBF hcF) | (go_at_call 11; refine (HQ.out.write_bad (i := 0) HD0.out (j := 0) (l := 0) (by omega) (.inr (by omega))).mono ?_; rintro e w6 ⟨rfl, rfl⟩))
                      refine hK.out _ _ ?_ ?_
                      · (try dsimp only) <;> (first | assumption | exact hS0)
                      clear hK K hHeld
                      intro hHeld
                      (try simp only [Act.put, List.setIfInBounds_toArray, List.set_cons_zero, List.set_cons_succ])
                      refine held_take 70 (v := ?_) rfl (by kernel_rfl) (fun _ _ _ h => h) (by rfl) ?_ (by assumption) ?_
                      rotate_left 1
                      · (intro w hSw; (try dsimp only at hSw); go_simp)
                        all_goals with_reducible rfl
                      (try simp only [Act.put, List.setIfInBounds_toArray, List.set_cons_zero, List.set_cons_succ])
                      refine held_take 71 (v := ?_) rfl (by kernel_rfl) (fun _ _ _ h => h) (by rfl) ?_ (by assumption) ?_
                      rotate_left 1
                      · (intro w hSw; (try dsimp only at hSw); go_simp)
                        all_goals with_reducible rfl
                      (try simp only [Act.put, List.setIfInBounds_toArray, List.set_cons_zero, List.set_cons_succ])
                      refine held_take 72 (v := ?_) rfl (by kernel_rfl) (fun _ _ _ h => h) (by rfl) ?_ (by assumption) ?_
                      rotate_left 1
                      · (intro w hSw; (try dsimp only at hSw); go_simp)
                        all_goals with_reducible rfl
                      (try simp only [Act.put, List.setIfInBounds_toArray, List.set_cons_zero, List.set_cons_succ])
                      refine wpAnyH_done (by kernel_rfl) ?_ _
                      refine NoPanic.normal ?_
                      all_goals go_wp2
                      all_goals go_ret
                      all_goals exact ⟨by simp, HQ.out.under⟩
                    exact AllReadyH.nil
                  exact AllReadyH.nil
                exact AllReadyH.nil
              exact AllReadyH.nil
            exact AllReadyH.nil
          exact AllReadyH.nil
        exact AllReadyH.nil
      exact AllReadyH.nil
    exact AllReadyH.nil
  exact AllReadyH.nil
end Go.Proofs.Ytkpfhlfbhceebaa.PAll
