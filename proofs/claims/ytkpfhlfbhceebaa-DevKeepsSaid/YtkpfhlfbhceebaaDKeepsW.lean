/- DevKeeps walked (printed by gen_keeps.py: with a Sync, and without one). -/
import Derived.Test.YtkpfhlfbhceebaaDKeeps
import Derived.Test.YtkpfhlfbhceebaaDKnown
import Derived.Test.YtkpfhlfbhceebaaDKLaw
import Derived.Test.YtkpfhlfbhceebaaDOrd
import Derived.OpenShut
namespace Go.Proofs.Ytkpfhlfbhceebaa.PAll
open Go.Proofs.Ytkpfhlfbhceebaa.Help
open Go.RowKit Go.Proofs.YtkpfhlfbhceebaaW.PrintWords Go.Proofs.YtkpfhlfbhceebaaW.PrintLast Go.Proofs.YtkpfhlfbhceebaaW.PrintMore
set_option linter.unusedVariables false
set_option linter.unusedSimpArgs false
set_option maxRecDepth 100000 in
set_option maxHeartbeats 4000000 in
theorem dev_keeps_true (A0 : Option Addr) (c0 : Nat) (la : List Int) (A1 : Option Addr) (c1 : Nat) (ks : List Bool) (w : World) (hr0 : Kd.C (Kd.int .u8) w A0 la.length la) (hr1 : Kd.C Kd.bool w A1 ks.length ks)
    (h0 : ∀ x ∈ la, 0 ≤ x ∧ x ≤ 255) :
    Calls Try.prog 5 #[.slice A0 la.length c0, .slice A1 ks.length c1, .bool true] w fun e w' => e = .returned (.bool true) ∧ Below w.heap.size w w' := by
  have HR0 := Aside0.mk hr0
  have HR1 := Aside0.mk hr1
  have hl0 : la.length ≤ 9223372036854775807 := hr0.2.1
  have hl1 : ks.length ≤ 9223372036854775807 := hr1.2.1
  have HX0 := Aside0.mk h0
  clear hr0 hr1 h0
  by_cases hbig : 60 < la.length
  · go_enter Try.func5, Try.ntmps5
    go_wp2_with (go_at_call 8; refine (dev_known _).mono ?_; rintro e w1 ⟨rfl, hB⟩)
    all_goals first | (exfalso; omega) | skip
    all_goals go_ret
    all_goals exact ⟨rfl, hB⟩
  · have hq0 : la.length ≤ 60 := by omega
    clear hbig
    obtain ⟨cc, hcc⟩ : ∃ cc : Nat → Bool, cc = fun k => true || ks.getD k false := ⟨_, rfl⟩
    have HCC := Aside0.mk hcc
    clear hcc
    go_enter Try.func5, Try.ntmps5
    go_wp2_with (first
      | (go_at_call 8; refine (dev_known _).mono ?_; rintro e w1 ⟨rfl, hB⟩; have HD := Aside0.mk (Devs.none_ hB); clear hB)
      | (go_at_call 9; refine (show Calls Try.prog 9 #[.int .i64 8] _ _ from HD.out.new 0 rfl (n := 8) (by decide) (by decide)).mono ?_; rintro e w2 ⟨p, rfl, h⟩; replace HD := Aside0.mk h; clear h))
    have HO := Aside0.mk (One.start HD.out (d := ⟨p, 8, List.replicate (8 * 64) 0, []⟩) rfl)
    clear HD
    go_loopg [10] la.length (fun gg s10 wr => ∃ kk : Nat, kk ≤ la.length ∧ la.length - kk ≤ gg ∧ s10 = .int .i64 kk ∧ Aside0 (One w wr w2.heap.size (wn cc la kk) ⟨p, 8, List.replicate (8 * 64) 0, kw la kk⟩))
    case atStart => exact ⟨0, Nat.zero_le _, by omega, rfl, HO⟩
    case round =>
      obtain ⟨kk, hkk, hgg, rfl, HL⟩ := hrel
      clear HO
      by_cases hlt : kk < la.length
      · obtain ⟨ad, rfl, hce⟩ := at_byte_later HR0.out hlt
        have hx := HX0.out _ (List.getElem_mem hlt)
        have hgd : la.getD kk 0 = la[kk]'hlt := by simp [List.getD_eq_getElem?_getD, List.getElem?_eq_getElem hlt]
        generalize la[kk]'hlt = x at *
        obtain ⟨n, rfl⟩ := Int.eq_ofNat_of_zero_le hx.1
        obtain ⟨m, hm⟩ : ∃ m, m = n % 8 := ⟨_, rfl⟩
        have hm8 : m < 8 := by omega
        have hm1 : Int.tmod (n : Int) 8 = (m : Int) := by rw [Int.tmod_eq_emod_of_nonneg (by omega)]; omega
        have hm2 : (la.getD kk 0 % 8) = (m : Int) := by rw [hgd]; omega
        have hwm : IntKind.i64.wrap (m : Int) = (m : Int) := wrapI (by omega) (by omega)
        have hwk : IntKind.i64.wrap ((kk : Int) + 1) = (kk : Int) + 1 := wrapI (by omega) (by omega)
        have hw8 : IntKind.u8.wrap ((kk : Int) + 1) = (kk : Int) + 1 := by simp [IntKind.wrap, IntKind.bits]; omega
        have HS := Aside0.mk hce
        have HM2 := Aside0.mk hm2
        have HKL := Aside0.mk (kw_length la kk)
        clear hce hgd hm2 hm
        go_upto_region 12 with fail
        replace HL := Aside0.mk (HL.out.below (W' := wr.drew) ⟨rfl, rfl, rfl, Nat.le_refl _, fun _ _ => rfl⟩)
        have hc1 := HS.out _ HL.out.under
        go_region_held3 (fun w' => w'.cell? (ad.add kk) = some (.int .u8 n))
          (first | assumption | exact hc1 | exact HS.out _ HL.out.under)
          (first
            | (go_at_call 18; refine (full_ok _).mono ?_; rintro e w5 ⟨gF, cF, rfl, hgF, hcF, hOF, hBF⟩; replace HL := Aside0.mk (HL.out.below hBF); have HF := Aside0.mk hOF; clear hOF hBF hgF)
            | (go_at_call 11; have hc := HL.out.write (by show (kw la kk).length < _; rw [HKL.out]; omega) (j := (m : Int)) (by omega) (by simp only; omega) HF.out.reads (by rw [List.length_replicate]; exact hcF) List.length_replicate; rw [List.length_replicate] at hc; (with_reducible refine hc.mono ?_); clear hc; rintro e w6 ⟨rfl, h⟩; replace HL := Aside0.mk h; clear h HF))
        have hkw : kw la (kk + 1) = kw la kk ++ [((m : Int), List.replicate 64 ((kk : Int) + 1))] := by
          show _ ++ [(la.getD kk 0 % 8, List.replicate 64 ((kk + 1 : Nat) : Int))] = _
          rw [HM2.out]; rfl
        have hL2 : One w w6 w2.heap.size (wn cc la kk) ⟨p, 8, List.replicate (8 * 64) 0, kw la (kk + 1)⟩ := by rw [hkw]; exact HL.out
        replace HL := Aside0.mk hL2
        clear hL2 hkw
        have hck : cc kk = true := by rw [HCC.out]; rfl
        have hc6 := HS.out _ HL.out.under
        have hcq := HL.out.cell (j := m) (by rw [wn_length]; exact hm8)
        have hfq := HL.out.frozen m
        have hP := HL.out.poke (j := m) (by rw [wn_length]; exact hm8) ((kk : Int) + 1)
        have hwn : wn cc la (kk + 1) = (wn cc la kk).set m ((kk : Int) + 1) := by
          show (if cc kk then (wn cc la kk).set (la.getD kk 0 % 8).toNat ((kk + 1 : Nat) : Int) else _) = _
          rw [if_pos hck, HM2.out]; rfl
        rw [← hwn] at hP
        have HP := Aside0.mk hP
        clear hP hwn
        go_wp2
        all_goals go_roundg (la.length - (kk + 1))
        all_goals first
          | omega
          | exact ⟨kk + 1, by omega, by omega, by go_num, HP⟩
      · have : kk = la.length := by omega
        subst this
        obtain ⟨Bf, hBf⟩ : ∃ B, B = aft cc (kw la la.length) (List.replicate (8 * 64) 0) la.length := ⟨_, rfl⟩
        have hKB : ∀ i : Nat, i < 8 → rblk Bf [] (i : Int) = List.replicate 64 ((wn cc la la.length).getD i 0) := fun i hi => by rw [hBf]; exact keep_blk cc la hi
        have hB : aft (fun k => ks.getD k false) [] (aft (fun _ => true) (kw la la.length) (List.replicate (8 * 64) 0) (kw la la.length).length) 0 = Bf := by
          show aft (fun _ => true) (kw la la.length) (List.replicate (8 * 64) 0) (kw la la.length).length = Bf
          rw [kw_length, hBf, HCC.out]; rfl
        have HKB := Aside0.mk hKB
        have HB := Aside0.mk hB
        have hWl := wn_length cc la la.length
        obtain ⟨Wn, hWn⟩ : ∃ W, W = wn cc la la.length := ⟨_, rfl⟩
        rw [← hWn] at HKB HL hWl
        have HWl := Aside0.mk hWl
        clear hKB hB hBf hWn hWl HX0 HR0
        go_wp2_with (first
          | (go_at_call 13; refine HL.out.sync.mono ?_; rintro e w3 ⟨rfl, h⟩; replace HL := Aside0.mk h; clear h)
          | (go_at_call 15; refine (HL.out.crash (c := c1) HR1.out).mono ?_; rintro e w4 ⟨rfl, h⟩; replace HL := Aside0.mk h; clear h))
        have hL2 : One w w4 w2.heap.size Wn ⟨p, 8, Bf, []⟩ := by rw [← HB.out]; exact HL.out
        replace HL := Aside0.mk hL2
        clear hL2 HB
        go_loopg [11] 8 (fun gg s11 wr => ∃ ii : Nat, ii ≤ 8 ∧ 8 - ii ≤ gg ∧ s11 = .int .i64 ii ∧ Aside0 (One w wr w2.heap.size Wn ⟨p, 8, Bf, []⟩))
        case atStart => exact ⟨0, Nat.zero_le _, by omega, rfl, HL⟩
        case round =>
          obtain ⟨ii, hii, hgi, rfl, HM⟩ := hrel
          clear HL
          by_cases hlt : ii < 8
          · have hwi : IntKind.i64.wrap ((ii : Int) + 1) = (ii : Int) + 1 := wrapI (by omega) (by omega)
            have hKi := HKB.out ii hlt
            generalize hv : Wn.getD ii 0 = v at hKi
            have HKI := Aside0.mk hKi
            have HV := Aside0.mk hv
            clear hKi hv
            go_upto_region 23 with (first
              | (go_at_call 19; refine (HM.out.read (by simp) (j := (ii : Int)) (by omega) (by simp only; omega)).mono ?_; rintro e w8 ⟨gx, cx, rfl, hgx, hcx, hOx, hBx⟩; replace HM := Aside0.mk (HM.out.below hBx); have hOy : OwnBy w8 gx cx (List.replicate 64 v) := HKI.out ▸ hOx; clear hOx hBx hgx hcx))
            have HQ := Aside0.mk (HM.out.below (W' := w8.drew) ⟨rfl, rfl, rfl, Nat.le_refl _, fun _ _ => rfl⟩)
            have HOx : Aside0 (OwnBy w8.drew gx cx (List.replicate 64 v)) := ⟨hOy.same rfl⟩
            clear hOy HM
            have hS : Aside0 (∀ w', Below w8.drew.heap.size w8.drew w' → w'.cell? ⟨w2.heap.size, ii, none⟩ = some (.int .u8 v) ∧ (convert 31 9 (.slice (some ⟨gx, 0, none⟩) 64 cx)).run Try.prog w' = .ok (.string (strOfNums (List.replicate 64 v))) w') := ⟨fun w' h => ⟨by rw [← HV.out]; exact (HQ.out.below h).cell (by rw [HWl.out]; exact hlt), (HOx.out.same (h.block _ HOx.out.lt)).str⟩⟩
            have hS0 := hS.out _ (Below.refl _ _)
            refine wp_region_noPanic ?_
            refine wp_region_held_drew (S := (fun w' => w'.cell? ⟨w2.heap.size, ii, none⟩ = some (.int .u8 v) ∧ (convert 31 9 (.slice (some ⟨gx, 0, none⟩) 64 cx)).run Try.prog w' = .ok (.string (strOfNums (List.replicate 64 v))) w')) (by kernel_rfl) ?_ (fun hHeld => ?_)
            · (try dsimp only) <;> (first | assumption | exact hS0)
            refine held_take 0 (v := ?_) rfl (by kernel_rfl) (fun _ _ _ h => h) (by rfl) ?_ (by assumption) ?_
            rotate_left 1
            · (intro w hSw; (try dsimp only at hSw); go_simp)
              all_goals with_reducible rfl
            (try simp only [Act.put, List.setIfInBounds_toArray, List.set_cons_zero, List.set_cons_succ])
            refine held_take 1 (v := ?_) rfl (by kernel_rfl) (fun _ _ _ h => h) (by rfl) ?_ (by assumption) ?_
            rotate_left 1
            · (intro w hSw; (try dsimp only at hSw); go_simp)
              all_goals with_reducible rfl
            (try simp only [Act.put, List.setIfInBounds_toArray, List.set_cons_zero, List.set_cons_succ])
            refine held_take 2 (v := ?_) rfl (by kernel_rfl) (fun _ _ _ h => h) (by rfl) ?_ (by assumption) ?_
            rotate_left 1
            · (intro w hSw; (try dsimp only at hSw); go_simp)
              all_goals with_reducible rfl
            (try simp only [Act.put, List.setIfInBounds_toArray, List.set_cons_zero, List.set_cons_succ])
            refine held_take 3 (v := ?_) rfl (by kernel_rfl) (fun _ _ _ h => h) (by rfl) ?_ (by assumption) ?_
            rotate_left 1
            · (intro w hSw; (try dsimp only at hSw); go_simp)
              all_goals with_reducible rfl
            (try simp only [Act.put, List.setIfInBounds_toArray, List.set_cons_zero, List.set_cons_succ])
            refine held_take 4 (v := ?_) rfl (by kernel_rfl) (fun _ _ _ h => h) (by rfl) ?_ (by assumption) ?_
            rotate_left 1
            · (intro w hSw; (try dsimp only at hSw); go_simp)
              all_goals with_reducible rfl
            (try simp only [Act.put, List.setIfInBounds_toArray, List.set_cons_zero, List.set_cons_succ])
            refine held_take 5 (v := ?_) rfl (by kernel_rfl) (fun _ _ _ h => h) (by rfl) ?_ (by assumption) ?_
            rotate_left 1
            · (intro w hSw; (try dsimp only at hSw); go_simp)
              all_goals with_reducible rfl
            (try simp only [Act.put, List.setIfInBounds_toArray, List.set_cons_zero, List.set_cons_succ])
            refine held_take 6 (v := ?_) rfl (by kernel_rfl) (fun _ _ _ h => h) (by rfl) ?_ (by assumption) ?_
            rotate_left 1
            · (intro w hSw; (try dsimp only at hSw); go_simp)
              all_goals with_reducible rfl
            (try simp only [Act.put, List.setIfInBounds_toArray, List.set_cons_zero, List.set_cons_succ])
            refine held_take 7 (v := ?_) rfl (by kernel_rfl) (fun _ _ _ h => h) (by rfl) ?_ (by assumption) ?_
            rotate_left 1
            · (intro w hSw; (try dsimp only at hSw); go_simp)
              all_goals with_reducible rfl
            (try simp only [Act.put, List.setIfInBounds_toArray, List.set_cons_zero, List.set_cons_succ])
            refine wpAnyH_ready (rs := [8]) (by kernel_rfl) (by simp) ?_
            refine held_step 8 rfl (fun K hK => ?_) ?_
            · go_simp
              go_wp2_with (first | (go_at_call 18; refine (full_ok _).mono ?_; rintro e w9 ⟨gF, cF, rfl, hgF, hcF, hOF, hBF⟩; replace HQ := Aside0.mk (HQ.out.below hBF); have hS1 := hS.out _ hBF; have hcF1 : (convert 31 9 (.slice (some ⟨gF, 0, none⟩) 64 cF)).run Try.prog w9 = _ := hOF.str; clear hOF hBF hgF hcF))
              refine hK.out _ _ ?_ ?_
              · (try dsimp only) <;> (first | assumption | exact hS0)
              clear hK K hHeld
              intro hHeld
              (try simp only [Act.put, List.setIfInBounds_toArray, List.set_cons_zero, List.set_cons_succ])
              refine wpAnyH_ready (rs := [9]) (by kernel_rfl) (by simp) ?_
              refine held_step 9 rfl (fun K hK => ?_) ?_
              · go_simp
                refine hK.out _ _ ?_ ?_
                · (try dsimp only) <;> (first | assumption | exact hS0)
                clear hK K hHeld
                intro hHeld
                (try simp only [Act.put, List.setIfInBounds_toArray, List.set_cons_zero, List.set_cons_succ])
                refine held_take 10 (v := ?_) rfl (by kernel_rfl) (fun _ _ _ h => h) (by rfl) ?_ (by assumption) ?_
                rotate_left 1
                · (intro w hSw; (try dsimp only at hSw); go_simp)
                  all_goals with_reducible rfl
                (try simp only [Act.put, List.setIfInBounds_toArray, List.set_cons_zero, List.set_cons_succ])
                refine held_take 11 (v := ?_) rfl (by kernel_rfl) (fun _ _ _ h => h) (by rfl) ?_ (by assumption) ?_
                rotate_left 1
                · (intro w hSw; (try dsimp only at hSw); go_simp)
                  all_goals with_reducible rfl
                (try simp only [Act.put, List.setIfInBounds_toArray, List.set_cons_zero, List.set_cons_succ])
                refine wpAnyH_done (by kernel_rfl) ?_ _
                refine NoPanic.normal ?_
                go_wp2
                all_goals go_roundg (8 - (ii + 1))
                all_goals first
                  | omega
                  | exact ⟨ii + 1, by omega, by omega, by go_num, HQ⟩
              exact AllReadyH.nil
            exact AllReadyH.nil
          · go_wp2_with (go_at_call 25; refine HM.out.waits.mono ?_; rintro e w7 ⟨rfl, rfl⟩)
            all_goals go_ret
            all_goals exact ⟨by simp, HM.out.under⟩
set_option maxRecDepth 100000 in
set_option maxHeartbeats 4000000 in
theorem dev_keeps_false (A0 : Option Addr) (c0 : Nat) (la : List Int) (A1 : Option Addr) (c1 : Nat) (ks : List Bool) (w : World) (hr0 : Kd.C (Kd.int .u8) w A0 la.length la) (hr1 : Kd.C Kd.bool w A1 ks.length ks)
    (h0 : ∀ x ∈ la, 0 ≤ x ∧ x ≤ 255) :
    Calls Try.prog 5 #[.slice A0 la.length c0, .slice A1 ks.length c1, .bool false] w fun e w' => e = .returned (.bool true) ∧ Below w.heap.size w w' := by
  have HR0 := Aside0.mk hr0
  have HR1 := Aside0.mk hr1
  have hl0 : la.length ≤ 9223372036854775807 := hr0.2.1
  have hl1 : ks.length ≤ 9223372036854775807 := hr1.2.1
  have HX0 := Aside0.mk h0
  clear hr0 hr1 h0
  by_cases hbig : 60 < la.length
  · go_enter Try.func5, Try.ntmps5
    go_wp2_with (go_at_call 8; refine (dev_known _).mono ?_; rintro e w1 ⟨rfl, hB⟩)
    all_goals first | (exfalso; omega) | skip
    all_goals go_ret
    all_goals exact ⟨rfl, hB⟩
  · have hq0 : la.length ≤ 60 := by omega
    clear hbig
    obtain ⟨cc, hcc⟩ : ∃ cc : Nat → Bool, cc = fun k => false || ks.getD k false := ⟨_, rfl⟩
    have HCC := Aside0.mk hcc
    clear hcc
    go_enter Try.func5, Try.ntmps5
    go_wp2_with (first
      | (go_at_call 8; refine (dev_known _).mono ?_; rintro e w1 ⟨rfl, hB⟩; have HD := Aside0.mk (Devs.none_ hB); clear hB)
      | (go_at_call 9; refine (show Calls Try.prog 9 #[.int .i64 8] _ _ from HD.out.new 0 rfl (n := 8) (by decide) (by decide)).mono ?_; rintro e w2 ⟨p, rfl, h⟩; replace HD := Aside0.mk h; clear h))
    have HO := Aside0.mk (One.start HD.out (d := ⟨p, 8, List.replicate (8 * 64) 0, []⟩) rfl)
    clear HD
    go_loopg [10] la.length (fun gg s10 wr => ∃ kk : Nat, kk ≤ la.length ∧ la.length - kk ≤ gg ∧ s10 = .int .i64 kk ∧ Aside0 (One w wr w2.heap.size (wn cc la kk) ⟨p, 8, List.replicate (8 * 64) 0, kw la kk⟩))
    case atStart => exact ⟨0, Nat.zero_le _, by omega, rfl, HO⟩
    case round =>
      obtain ⟨kk, hkk, hgg, rfl, HL⟩ := hrel
      clear HO
      by_cases hlt : kk < la.length
      · obtain ⟨ad, rfl, hce⟩ := at_byte_later HR0.out hlt
        have hx := HX0.out _ (List.getElem_mem hlt)
        have hgd : la.getD kk 0 = la[kk]'hlt := by simp [List.getD_eq_getElem?_getD, List.getElem?_eq_getElem hlt]
        generalize la[kk]'hlt = x at *
        obtain ⟨n, rfl⟩ := Int.eq_ofNat_of_zero_le hx.1
        obtain ⟨m, hm⟩ : ∃ m, m = n % 8 := ⟨_, rfl⟩
        have hm8 : m < 8 := by omega
        have hm1 : Int.tmod (n : Int) 8 = (m : Int) := by rw [Int.tmod_eq_emod_of_nonneg (by omega)]; omega
        have hm2 : (la.getD kk 0 % 8) = (m : Int) := by rw [hgd]; omega
        have hwm : IntKind.i64.wrap (m : Int) = (m : Int) := wrapI (by omega) (by omega)
        have hwk : IntKind.i64.wrap ((kk : Int) + 1) = (kk : Int) + 1 := wrapI (by omega) (by omega)
        have hw8 : IntKind.u8.wrap ((kk : Int) + 1) = (kk : Int) + 1 := by simp [IntKind.wrap, IntKind.bits]; omega
        have HS := Aside0.mk hce
        have HM2 := Aside0.mk hm2
        have HKL := Aside0.mk (kw_length la kk)
        clear hce hgd hm2 hm
        go_upto_region 12 with fail
        replace HL := Aside0.mk (HL.out.below (W' := wr.drew) ⟨rfl, rfl, rfl, Nat.le_refl _, fun _ _ => rfl⟩)
        have hc1 := HS.out _ HL.out.under
        go_region_held3 (fun w' => w'.cell? (ad.add kk) = some (.int .u8 n))
          (first | assumption | exact hc1 | exact HS.out _ HL.out.under)
          (first
            | (go_at_call 18; refine (full_ok _).mono ?_; rintro e w5 ⟨gF, cF, rfl, hgF, hcF, hOF, hBF⟩; replace HL := Aside0.mk (HL.out.below hBF); have HF := Aside0.mk hOF; clear hOF hBF hgF)
            | (go_at_call 11; have hc := HL.out.write (by show (kw la kk).length < _; rw [HKL.out]; omega) (j := (m : Int)) (by omega) (by simp only; omega) HF.out.reads (by rw [List.length_replicate]; exact hcF) List.length_replicate; rw [List.length_replicate] at hc; (with_reducible refine hc.mono ?_); clear hc; rintro e w6 ⟨rfl, h⟩; replace HL := Aside0.mk h; clear h HF))
        have hkw : kw la (kk + 1) = kw la kk ++ [((m : Int), List.replicate 64 ((kk : Int) + 1))] := by
          show _ ++ [(la.getD kk 0 % 8, List.replicate 64 ((kk + 1 : Nat) : Int))] = _
          rw [HM2.out]; rfl
        have hL2 : One w w6 w2.heap.size (wn cc la kk) ⟨p, 8, List.replicate (8 * 64) 0, kw la (kk + 1)⟩ := by rw [hkw]; exact HL.out
        replace HL := Aside0.mk hL2
        clear hL2 hkw
        by_cases hkl : kk < ks.length
        · obtain ⟨ad2, rfl, hcf⟩ := at_flag_later HR1.out hkl
          have hcf6 := hcf _ HL.out.under
          cases hfv : ks.getD kk false with
          | true =>
            have hck : cc kk = true := by rw [HCC.out]; exact hfv
            rw [hfv] at hcf6
            have HV := Aside0.mk hfv
            clear hcf hfv
            have hc6 := HS.out _ HL.out.under
            have hcq := HL.out.cell (j := m) (by rw [wn_length]; exact hm8)
            have hfq := HL.out.frozen m
            have hP := HL.out.poke (j := m) (by rw [wn_length]; exact hm8) ((kk : Int) + 1)
            have hwn : wn cc la (kk + 1) = (wn cc la kk).set m ((kk : Int) + 1) := by
              show (if cc kk then (wn cc la kk).set (la.getD kk 0 % 8).toNat ((kk + 1 : Nat) : Int) else _) = _
              rw [if_pos hck, HM2.out]; rfl
            rw [← hwn] at hP
            have HP := Aside0.mk hP
            clear hP hwn
            go_wp2
            all_goals go_roundg (la.length - (kk + 1))
            all_goals first
              | omega
              | exact ⟨kk + 1, by omega, by omega, by go_num, HP⟩
          | false =>
            have hck : cc kk = false := by rw [HCC.out]; exact hfv
            rw [hfv] at hcf6
            have HV := Aside0.mk hfv
            clear hcf hfv
            have hwn : wn cc la (kk + 1) = wn cc la kk := by
              show (if cc kk then (wn cc la kk).set (la.getD kk 0 % 8).toNat ((kk + 1 : Nat) : Int) else _) = _
              rw [if_neg (by rw [hck]; decide)]
            rw [← hwn] at HL
            clear hwn
            go_wp2
            all_goals go_roundg (la.length - (kk + 1))
            all_goals first
              | omega
              | exact ⟨kk + 1, by omega, by omega, by go_num, HL⟩
        · have hck : cc kk = false := by
            rw [HCC.out]
            show ks.getD kk false = false
            rw [List.getD_eq_getElem?_getD, List.getElem?_eq_none (by omega)]; rfl
          have hwn : wn cc la (kk + 1) = wn cc la kk := by
            show (if cc kk then (wn cc la kk).set (la.getD kk 0 % 8).toNat ((kk + 1 : Nat) : Int) else _) = _
            rw [if_neg (by rw [hck]; decide)]
          rw [← hwn] at HL
          clear hwn
          go_wp2
          all_goals go_roundg (la.length - (kk + 1))
          all_goals first
            | omega
            | exact ⟨kk + 1, by omega, by omega, by go_num, HL⟩
      · have : kk = la.length := by omega
        subst this
        obtain ⟨Bf, hBf⟩ : ∃ B, B = aft cc (kw la la.length) (List.replicate (8 * 64) 0) la.length := ⟨_, rfl⟩
        have hKB : ∀ i : Nat, i < 8 → rblk Bf [] (i : Int) = List.replicate 64 ((wn cc la la.length).getD i 0) := fun i hi => by rw [hBf]; exact keep_blk cc la hi
        have hB : aft (fun k => ks.getD k false) (kw la la.length) (List.replicate (8 * 64) 0) (kw la la.length).length = Bf := by
          rw [kw_length, hBf, HCC.out]; rfl
        have HKB := Aside0.mk hKB
        have HB := Aside0.mk hB
        have hWl := wn_length cc la la.length
        obtain ⟨Wn, hWn⟩ : ∃ W, W = wn cc la la.length := ⟨_, rfl⟩
        rw [← hWn] at HKB HL hWl
        have HWl := Aside0.mk hWl
        clear hKB hB hBf hWn hWl HX0 HR0
        go_wp2_with (first
          | (go_at_call 13; refine HL.out.sync.mono ?_; rintro e w3 ⟨rfl, h⟩; replace HL := Aside0.mk h; clear h)
          | (go_at_call 15; refine (HL.out.crash (c := c1) HR1.out).mono ?_; rintro e w4 ⟨rfl, h⟩; replace HL := Aside0.mk h; clear h))
        have hL2 : One w w4 w2.heap.size Wn ⟨p, 8, Bf, []⟩ := by rw [← HB.out]; exact HL.out
        replace HL := Aside0.mk hL2
        clear hL2 HB
        go_loopg [11] 8 (fun gg s11 wr => ∃ ii : Nat, ii ≤ 8 ∧ 8 - ii ≤ gg ∧ s11 = .int .i64 ii ∧ Aside0 (One w wr w2.heap.size Wn ⟨p, 8, Bf, []⟩))
        case atStart => exact ⟨0, Nat.zero_le _, by omega, rfl, HL⟩
        case round =>
          obtain ⟨ii, hii, hgi, rfl, HM⟩ := hrel
          clear HL
          by_cases hlt : ii < 8
          · have hwi : IntKind.i64.wrap ((ii : Int) + 1) = (ii : Int) + 1 := wrapI (by omega) (by omega)
            have hKi := HKB.out ii hlt
            generalize hv : Wn.getD ii 0 = v at hKi
            have HKI := Aside0.mk hKi
            have HV := Aside0.mk hv
            clear hKi hv
            go_upto_region 23 with (first
              | (go_at_call 19; refine (HM.out.read (by simp) (j := (ii : Int)) (by omega) (by simp only; omega)).mono ?_; rintro e w8 ⟨gx, cx, rfl, hgx, hcx, hOx, hBx⟩; replace HM := Aside0.mk (HM.out.below hBx); have hOy : OwnBy w8 gx cx (List.replicate 64 v) := HKI.out ▸ hOx; clear hOx hBx hgx hcx))
            have HQ := Aside0.mk (HM.out.below (W' := w8.drew) ⟨rfl, rfl, rfl, Nat.le_refl _, fun _ _ => rfl⟩)
            have HOx : Aside0 (OwnBy w8.drew gx cx (List.replicate 64 v)) := ⟨hOy.same rfl⟩
            clear hOy HM
            have hS : Aside0 (∀ w', Below w8.drew.heap.size w8.drew w' → w'.cell? ⟨w2.heap.size, ii, none⟩ = some (.int .u8 v) ∧ (convert 31 9 (.slice (some ⟨gx, 0, none⟩) 64 cx)).run Try.prog w' = .ok (.string (strOfNums (List.replicate 64 v))) w') := ⟨fun w' h => ⟨by rw [← HV.out]; exact (HQ.out.below h).cell (by rw [HWl.out]; exact hlt), (HOx.out.same (h.block _ HOx.out.lt)).str⟩⟩
            have hS0 := hS.out _ (Below.refl _ _)
            refine wp_region_noPanic ?_
            refine wp_region_held_drew (S := (fun w' => w'.cell? ⟨w2.heap.size, ii, none⟩ = some (.int .u8 v) ∧ (convert 31 9 (.slice (some ⟨gx, 0, none⟩) 64 cx)).run Try.prog w' = .ok (.string (strOfNums (List.replicate 64 v))) w')) (by kernel_rfl) ?_ (fun hHeld => ?_)
            · (try dsimp only) <;> (first | assumption | exact hS0)
            refine held_take 0 (v := ?_) rfl (by kernel_rfl) (fun _ _ _ h => h) (by rfl) ?_ (by assumption) ?_
            rotate_left 1
            · (intro w hSw; (try dsimp only at hSw); go_simp)
              all_goals with_reducible rfl
            (try simp only [Act.put, List.setIfInBounds_toArray, List.set_cons_zero, List.set_cons_succ])
            refine held_take 1 (v := ?_) rfl (by kernel_rfl) (fun _ _ _ h => h) (by rfl) ?_ (by assumption) ?_
            rotate_left 1
            · (intro w hSw; (try dsimp only at hSw); go_simp)
              all_goals with_reducible rfl
            (try simp only [Act.put, List.setIfInBounds_toArray, List.set_cons_zero, List.set_cons_succ])
            refine held_take 2 (v := ?_) rfl (by kernel_rfl) (fun _ _ _ h => h) (by rfl) ?_ (by assumption) ?_
            rotate_left 1
            · (intro w hSw; (try dsimp only at hSw); go_simp)
              all_goals with_reducible rfl
            (try simp only [Act.put, List.setIfInBounds_toArray, List.set_cons_zero, List.set_cons_succ])
            refine held_take 3 (v := ?_) rfl (by kernel_rfl) (fun _ _ _ h => h) (by rfl) ?_ (by assumption) ?_
            rotate_left 1
            · (intro w hSw; (try dsimp only at hSw); go_simp)
              all_goals with_reducible rfl
            (try simp only [Act.put, List.setIfInBounds_toArray, List.set_cons_zero, List.set_cons_succ])
            refine held_take 4 (v := ?_) rfl (by kernel_rfl) (fun _ _ _ h => h) (by rfl) ?_ (by assumption) ?_
            rotate_left 1
            · (intro w hSw; (try dsimp only at hSw); go_simp)
              all_goals with_reducible rfl
            (try simp only [Act.put, List.setIfInBounds_toArray, List.set_cons_zero, List.set_cons_succ])
            refine held_take 5 (v := ?_) rfl (by kernel_rfl) (fun _ _ _ h => h) (by rfl) ?_ (by assumption) ?_
            rotate_left 1
            · (intro w hSw; (try dsimp only at hSw); go_simp)
              all_goals with_reducible rfl
            (try simp only [Act.put, List.setIfInBounds_toArray, List.set_cons_zero, List.set_cons_succ])
            refine held_take 6 (v := ?_) rfl (by kernel_rfl) (fun _ _ _ h => h) (by rfl) ?_ (by assumption) ?_
            rotate_left 1
            · (intro w hSw; (try dsimp only at hSw); go_simp)
              all_goals with_reducible rfl
            (try simp only [Act.put, List.setIfInBounds_toArray, List.set_cons_zero, List.set_cons_succ])
            refine held_take 7 (v := ?_) rfl (by kernel_rfl) (fun _ _ _ h => h) (by rfl) ?_ (by assumption) ?_
            rotate_left 1
            · (intro w hSw; (try dsimp only at hSw); go_simp)
              all_goals with_reducible rfl
            (try simp only [Act.put, List.setIfInBounds_toArray, List.set_cons_zero, List.set_cons_succ])
            refine wpAnyH_ready (rs := [8]) (by kernel_rfl) (by simp) ?_
            refine held_step 8 rfl (fun K hK => ?_) ?_
            · go_simp
              go_wp2_with (first | (go_at_call 18; refine (full_ok _).mono ?_; rintro e w9 ⟨gF, cF, rfl, hgF, hcF, hOF, hBF⟩; replace HQ := Aside0.mk (HQ.out.below hBF); have hS1 := hS.out _ hBF; have hcF1 : (convert 31 9 (.slice (some ⟨gF, 0, none⟩) 64 cF)).run Try.prog w9 = _ := hOF.str; clear hOF hBF hgF hcF))
              refine hK.out _ _ ?_ ?_
              · (try dsimp only) <;> (first | assumption | exact hS0)
              clear hK K hHeld
              intro hHeld
              (try simp only [Act.put, List.setIfInBounds_toArray, List.set_cons_zero, List.set_cons_succ])
              refine wpAnyH_ready (rs := [9]) (by kernel_rfl) (by simp) ?_
              refine held_step 9 rfl (fun K hK => ?_) ?_
              · go_simp
                refine hK.out _ _ ?_ ?_
                · (try dsimp only) <;> (first | assumption | exact hS0)
                clear hK K hHeld
                intro hHeld
                (try simp only [Act.put, List.setIfInBounds_toArray, List.set_cons_zero, List.set_cons_succ])
                refine held_take 10 (v := ?_) rfl (by kernel_rfl) (fun _ _ _ h => h) (by rfl) ?_ (by assumption) ?_
                rotate_left 1
                · (intro w hSw; (try dsimp only at hSw); go_simp)
                  all_goals with_reducible rfl
                (try simp only [Act.put, List.setIfInBounds_toArray, List.set_cons_zero, List.set_cons_succ])
                refine held_take 11 (v := ?_) rfl (by kernel_rfl) (fun _ _ _ h => h) (by rfl) ?_ (by assumption) ?_
                rotate_left 1
                · (intro w hSw; (try dsimp only at hSw); go_simp)
                  all_goals with_reducible rfl
                (try simp only [Act.put, List.setIfInBounds_toArray, List.set_cons_zero, List.set_cons_succ])
                refine wpAnyH_done (by kernel_rfl) ?_ _
                refine NoPanic.normal ?_
                go_wp2
                all_goals go_roundg (8 - (ii + 1))
                all_goals first
                  | omega
                  | exact ⟨ii + 1, by omega, by omega, by go_num, HQ⟩
              exact AllReadyH.nil
            exact AllReadyH.nil
          · go_wp2_with (go_at_call 25; refine HM.out.waits.mono ?_; rintro e w7 ⟨rfl, rfl⟩)
            all_goals go_ret
            all_goals exact ⟨by simp, HM.out.under⟩
end Go.Proofs.Ytkpfhlfbhceebaa.PAll
