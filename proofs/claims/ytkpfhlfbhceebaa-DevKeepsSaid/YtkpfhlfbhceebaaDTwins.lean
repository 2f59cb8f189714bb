/- DevTwins walked. -/
import Derived.Test.YtkpfhlfbhceebaaDFlags
import Derived.Test.YtkpfhlfbhceebaaDKnown
import Derived.OpenShut
namespace Go.Proofs.Ytkpfhlfbhceebaa.PAll
open Go.Proofs.Ytkpfhlfbhceebaa.Help
open Go.RowKit Go.Proofs.YtkpfhlfbhceebaaW.PrintWords Go.Proofs.YtkpfhlfbhceebaaW.PrintLast Go.Proofs.YtkpfhlfbhceebaaW.PrintMore
set_option linter.unusedVariables false
set_option linter.unusedSimpArgs false
theorem upd_upd (D : Nat → Option DSt) (i : Nat) (d e : DSt) : upd (upd D i d) i e = upd D i e := by
  funext j
  unfold upd
  split <;> rfl
/-- What is written for a byte: to the block that it tells by m, full of it. -/
def wrBy (m : Int) (c : Int) : Int × List Int := (c % m, List.replicate 64 c)
set_option maxRecDepth 100000 in
set_option maxHeartbeats 4000000 in
theorem dev_twins (A0 : Option Addr) (c0 : Nat) (la : List Int) (A1 : Option Addr) (c1 : Nat) (lb : List Int) (A2 : Option Addr) (c2 : Nat) (ks : List Bool) (w : World) (hr0 : Kd.C (Kd.int .u8) w A0 la.length la) (hr1 : Kd.C (Kd.int .u8) w A1 lb.length lb) (hr2 : Kd.C Kd.bool w A2 ks.length ks)
    (h0 : ∀ x ∈ la, 0 ≤ x ∧ x ≤ 255) (h1 : ∀ x ∈ lb, 0 ≤ x ∧ x ≤ 255) :
    Calls Try.prog 6 #[.slice A0 la.length c0, .slice A1 lb.length c1, .slice A2 ks.length c2] w fun e w' => e = .returned (.bool true) ∧ Below w.heap.size w w' := by
  have HR0 := Aside0.mk hr0
  have HR1 := Aside0.mk hr1
  have HR2 := Aside0.mk hr2
  have hl0 : la.length ≤ 9223372036854775807 := hr0.2.1
  have hl1 : lb.length ≤ 9223372036854775807 := hr1.2.1
  have HX0 := Aside0.mk h0
  have HX1 := Aside0.mk h1
  clear hr0 hr1 hr2 h0 h1
  by_cases hbig : 40 < la.length ∨ 40 < lb.length
  · go_enter Try.func6, Try.ntmps6
    go_wp2_with (go_at_call 8; refine (dev_known _).mono ?_; rintro e w1 ⟨rfl, hB⟩)
    all_goals first | (exfalso; omega) | skip
    all_goals go_ret
    all_goals exact ⟨rfl, hB⟩
  · have hq0 : la.length ≤ 40 := by omega
    have hq1 : lb.length ≤ 40 := by omega
    clear hbig
    go_enter Try.func6, Try.ntmps6
    go_wp2_with (first
      | (go_at_call 8; refine (dev_known _).mono ?_; rintro e w1 ⟨rfl, hB⟩; have HD := Aside0.mk (Devs.none_ hB); clear hB)
      | (go_at_call 9; refine (show Calls Try.prog 9 #[.int .i64 6] _ _ from HD.out.new 0 rfl (n := 6) (by decide) (by decide)).mono ?_; rintro e w2 ⟨p, rfl, h⟩; replace HD := Aside0.mk h; clear h))
    go_loopg [9] la.length (fun gg s9 wr => ∃ kk : Nat, kk ≤ la.length ∧ la.length - kk ≤ gg ∧ s9 = .int .i64 kk ∧ Aside0 (Devs w wr (upd noDev 0 ⟨p, 6, List.replicate (6 * 64) 0, (la.take kk).map (wrBy 6)⟩) []))
    case atStart => exact ⟨0, Nat.zero_le _, by omega, rfl, HD⟩
    case round =>
      obtain ⟨kk, hkk, hgg, rfl, HL⟩ := hrel
      clear HD
      by_cases hlt : kk < la.length
      · obtain ⟨ad, rfl, hce⟩ := at_byte_later HR0.out hlt
        have hx := HX0.out _ (List.getElem_mem hlt)
        have htk : (la.take (kk + 1)) = la.take kk ++ [la[kk]'hlt] := by simp
        generalize la[kk]'hlt = x at *
        obtain ⟨q, rfl⟩ := Int.eq_ofNat_of_zero_le hx.1
        have hm1 : Int.tmod (q : Int) 6 = (q : Int) % 6 := Int.tmod_eq_emod_of_nonneg (by omega)
        have hw6 : IntKind.i64.wrap ((q : Int) % 6) = (q : Int) % 6 := wrapI (by omega) (by omega)
        have HS := Aside0.mk hce
        have HT := Aside0.mk htk
        clear htk hce
        go_upto_region 11 with fail
        replace HL := Aside0.mk (HL.out.below (W' := wr.drew) ⟨rfl, rfl, rfl, Nat.le_refl _, fun _ _ => rfl⟩)
        have hc1 := HS.out _ HL.out.under
        go_region_held3 (fun w' => w'.cell? (ad.add kk) = some (.int .u8 q))
          (first | assumption | exact hc1 | exact HS.out _ HL.out.under)
          (first
            | (go_at_call 18; refine (full_ok _).mono ?_; rintro e w5 ⟨gF, cF, rfl, hgF, hcF, hOF, hBF⟩; replace HL := Aside0.mk (HL.out.below hBF); have HF := Aside0.mk hOF; clear hOF hBF hgF)
            | (go_at_call 11; have hc := HL.out.write (i := 0) rfl (by simp; omega) (j := (q : Int) % 6) (by omega) (by simp only; omega) HF.out.reads (by rw [List.length_replicate]; exact hcF) List.length_replicate; rw [List.length_replicate] at hc; (with_reducible refine hc.mono ?_); clear hc; rintro e w6 ⟨rfl, h⟩; replace HL := Aside0.mk h; clear h HF))
        go_wp2
        all_goals go_roundg (la.length - (kk + 1))
        all_goals first
          | omega
          | exact ⟨kk + 1, by omega, by omega, by go_num, ⟨by rw [upd_upd] at HL; rw [HT.out, List.map_append]; exact HL.out⟩⟩
      · have : kk = la.length := by omega
        subst this
        rw [List.take_length] at HL
        obtain ⟨La, hLa⟩ : ∃ L, L = la.map (wrBy 6) := ⟨_, rfl⟩
        rw [← hLa] at HL
        have hLl : La.length = la.length := by rw [hLa, List.length_map]
        clear hLa
        obtain ⟨B0, hB0⟩ : ∃ B, B = List.replicate (6 * 64) (0 : Int) := ⟨_, rfl⟩
        rw [← hB0] at HL
        clear hB0
        have ok0 := HL.out.ok (i := 0) rfl
        obtain ⟨Bs, hBs⟩ : ∃ B, aft (fun _ => true) La B0 La.length = B := ⟨_, rfl⟩
        obtain ⟨Ba, hBa⟩ : ∃ B, aft (fun k => ks.getD k false) La B0 La.length = B := ⟨_, rfl⟩
        have hBsl : Bs.length = 384 := by rw [← hBs]; exact aft_length ok0.len ok0.wait _
        have hBal : Ba.length = 384 := by rw [← hBa]; exact aft_length ok0.len ok0.wait _
        clear ok0
        have HBs := Aside0.mk hBs
        have HBa := Aside0.mk hBa
        have HBsl := Aside0.mk hBsl
        have HBal := Aside0.mk hBal
        clear hBs hBa hBsl hBal
        go_wp2_with (first
          | (go_at_call 17; refine (HL.out.twin (i := 0) rfl (by simp only; omega) 1 rfl).mono ?_; rintro e w3 ⟨pt, rfl, h⟩; replace HL := Aside0.mk h; clear h)
          | (go_at_call 17; refine (HL.out.twin (i := 0) rfl (by simp only; omega) 2 rfl).mono ?_; rintro e w4 ⟨pu, rfl, h⟩; replace HL := Aside0.mk h; clear h)
          | (go_at_call 24; have hc := HL.out.bytes (i := 0) (d := ⟨p, 6, B0, La⟩) rfl (by simp only; omega); simp only at hc; rw [HBs.out, HBsl.out] at hc; (with_reducible refine hc.mono ?_); clear hc; rintro e w5 ⟨gF, cF, rfl, hcF, hgF, hOF, hBF⟩; replace HL := Aside0.mk (HL.out.below hBF); have hcv := hOF.str; rw [HBsl.out] at hcv; clear hOF hBF hgF hcF))
        obtain ⟨Dx, Rx, hDx, hRx, HM⟩ := HL.out.pack
        clear HL
        have hd0 : Dx 0 = some ⟨p, 6, B0, La⟩ := by rw [hDx]; rfl
        have hd1 : Dx 1 = some ⟨pt, 6, B0, La⟩ := by rw [hDx]; rfl
        have hd2 : Dx 2 = some ⟨pu, 6, B0, La⟩ := by rw [hDx]; rfl
        have HD0 := Aside0.mk hd0
        have HD2 := Aside0.mk hd2
        have hst : Devs w w5 (upd Dx 1 ⟨pt, 6, B0, La ++ (lb.take 0).map (wrBy 6)⟩) Rx := by
          have e : upd Dx 1 ⟨pt, 6, B0, La ++ (lb.take 0).map (wrBy 6)⟩ = Dx := by
            funext j
            unfold upd
            split
            · rename_i e
              subst e
              rw [hd1]; simp
            · rfl
          rw [e]; exact HM
        have HM := Aside0.mk hst
        clear hst hDx hRx hd0 hd1 hd2
        go_loopg [13] lb.length (fun gg s13 wr => ∃ kk : Nat, kk ≤ lb.length ∧ lb.length - kk ≤ gg ∧ s13 = .int .i64 kk ∧ Aside0 (Devs w wr (upd Dx 1 ⟨pt, 6, B0, La ++ (lb.take kk).map (wrBy 6)⟩) Rx))
        case atStart => exact ⟨0, Nat.zero_le _, by omega, rfl, HM⟩
        case round =>
          obtain ⟨kk, hkk, hgg, rfl, HL⟩ := hrel
          clear HM
          by_cases hlt : kk < lb.length
          · obtain ⟨ad, rfl, hce⟩ := at_byte_later HR1.out hlt
            have hx := HX1.out _ (List.getElem_mem hlt)
            have htk : (lb.take (kk + 1)) = lb.take kk ++ [lb[kk]'hlt] := by simp
            generalize lb[kk]'hlt = x at *
            obtain ⟨q, rfl⟩ := Int.eq_ofNat_of_zero_le hx.1
            have hm1 : Int.tmod (q : Int) 6 = (q : Int) % 6 := Int.tmod_eq_emod_of_nonneg (by omega)
            have hw6 : IntKind.i64.wrap ((q : Int) % 6) = (q : Int) % 6 := wrapI (by omega) (by omega)
            have HS := Aside0.mk hce
            have HT := Aside0.mk htk
            clear htk hce
            go_upto_region 19 with fail
            replace HL := Aside0.mk (HL.out.below (W' := wr.drew) ⟨rfl, rfl, rfl, Nat.le_refl _, fun _ _ => rfl⟩)
            have hc1 := HS.out _ HL.out.under
            go_region_held3 (fun w' => w'.cell? (ad.add kk) = some (.int .u8 q))
              (first | assumption | exact hc1 | exact HS.out _ HL.out.under)
              (first
                | (go_at_call 18; refine (full_ok _).mono ?_; rintro e w5 ⟨gF, cF, rfl, hgF, hcF, hOF, hBF⟩; replace HL := Aside0.mk (HL.out.below hBF); have HF := Aside0.mk hOF; clear hOF hBF hgF)
                | (go_at_call 11; have hc := HL.out.write (i := 1) (upd_same _ _ _) (by simp; omega) (j := (q : Int) % 6) (by omega) (by simp only; omega) HF.out.reads (by rw [List.length_replicate]; exact hcF) List.length_replicate; rw [List.length_replicate] at hc; (with_reducible refine hc.mono ?_); clear hc; rintro e w6 ⟨rfl, h⟩; replace HL := Aside0.mk h; clear h HF))
            go_wp2
            all_goals go_roundg (lb.length - (kk + 1))
            all_goals first
              | omega
              | exact ⟨kk + 1, by omega, by omega, by go_num, ⟨by rw [upd_upd] at HL; rw [HT.out, List.map_append, ← List.append_assoc]; exact HL.out⟩⟩
          · have : kk = lb.length := by omega
            subst this
            rw [List.take_length] at HL
            obtain ⟨Lb, hLb⟩ : ∃ L, L = La ++ lb.map (wrBy 6) := ⟨_, rfl⟩
            rw [← hLb] at HL
            have hLl2 : Lb.length = la.length + lb.length := by rw [hLb, List.length_append, List.length_map, hLl]
            clear hLb
            have ok1 := HL.out.ok (i := 1) (upd_same _ _ _)
            obtain ⟨Bt, hBt⟩ : ∃ B, aft (fun _ => true) Lb B0 Lb.length = B := ⟨_, rfl⟩
            have hBtl : Bt.length = 384 := by rw [← hBt]; exact aft_length ok1.len ok1.wait _
            clear ok1
            have HBt := Aside0.mk hBt
            have HBtl := Aside0.mk hBtl
            clear hBt hBtl
            have hd0 : upd Dx 1 ⟨pt, 6, B0, Lb⟩ 0 = some ⟨p, 6, B0, La⟩ := HD0.out
            have hd2 : upd Dx 1 ⟨pt, 6, B0, Lb⟩ 2 = some ⟨pu, 6, B0, La⟩ := HD2.out
            clear HD0 HD2
            have HD0 := Aside0.mk hd0
            have HD2 := Aside0.mk hd2
            clear hd0 hd2
            go_upto_region 22 with (first
              | (go_at_call 13; have hc := HL.out.sync (i := 1) (upd_same _ _ _); simp only at hc; rw [HBt.out] at hc; (with_reducible refine hc.mono ?_); clear hc; rintro e w6 ⟨rfl, h⟩; replace HL := Aside0.mk h; clear h)
              | (go_at_call 15; have hc := HL.out.crash (Below.refl _ _) (i := 2) (d := ⟨pu, 6, B0, La⟩) HD2.out (c := c2) (C_later_bool HR2.out HL.out.under) (fun a ha h0 => ⟨Nat.lt_of_lt_of_le (C_lt_bool HR2.out a ha h0) HL.out.under.size, .inl (C_lt_bool HR2.out a ha h0)⟩); simp only at hc; rw [HBa.out] at hc; (with_reducible refine hc.mono ?_); clear hc; rintro e w7 ⟨rfl, h⟩; replace HL := Aside0.mk h; clear h))
            obtain ⟨Dy, Ry, hDy, hRy, HM⟩ := HL.out.pack
            have he0 : Dy 0 = some ⟨p, 6, B0, La⟩ := by rw [hDy]; exact HD0.out
            have he1 : Dy 1 = some ⟨pt, 6, Bt, []⟩ := by rw [hDy]; rfl
            have he2 : Dy 2 = some ⟨pu, 6, Ba, []⟩ := by rw [hDy]; rfl
            clear hDy hRy HD0 HD2 HL
            have HE0 := Aside0.mk he0
            have HE1 := Aside0.mk he1
            have HE2 := Aside0.mk he2
            have HQ := Aside0.mk HM
            clear he0 he1 he2 HM
            go_wp2_with (first
              | (go_at_call_of 24 (Value.pointer (some ⟨p, 0, none⟩)); have hc := HQ.out.bytes (i := 0) HE0.out (by simp only; omega); simp only at hc; rw [HBs.out, HBsl.out] at hc; (with_reducible refine hc.mono ?_); clear hc; rintro e w8 ⟨gG, cG, rfl, hcF, hgF, hOF, hBF⟩; replace HQ := Aside0.mk (HQ.out.below hBF); have hcw := hOF.str; rw [HBsl.out] at hcw; clear hOF hBF hgF hcF)
              | (go_at_call_of 24 (Value.pointer (some ⟨pt, 0, none⟩)); have hc := HQ.out.bytes (i := 1) HE1.out (by simp); simp only [List.length_nil, aft] at hc; rw [HBtl.out] at hc; (with_reducible refine hc.mono ?_); clear hc; rintro e w9 ⟨gH, cH, rfl, hcF, hgF, hOF, hBF⟩; replace HQ := Aside0.mk (HQ.out.below hBF); have hcz := hOF.str; rw [HBtl.out] at hcz; clear hOF hBF hgF hcF)
              | (go_at_call_of 25 (Value.pointer (some ⟨p, 0, none⟩)); have hc := HQ.out.waits (i := 0) HE0.out; simp only at hc; rw [hLl] at hc; (with_reducible refine hc.mono ?_); clear hc; rintro e w7 ⟨rfl, rfl⟩)
              | (go_at_call_of 25 (Value.pointer (some ⟨pt, 0, none⟩)); refine (HQ.out.waits (i := 1) HE1.out).mono ?_; rintro e w7 ⟨rfl, rfl⟩)
              | (go_at_call_of 25 (Value.pointer (some ⟨pu, 0, none⟩)); refine (HQ.out.waits (i := 2) HE2.out).mono ?_; rintro e w7 ⟨rfl, rfl⟩)
              | (go_at_call 15; have hc := HQ.out.crash (Below.refl _ _) (i := 0) (d := ⟨p, 6, B0, La⟩) HE0.out (c := c2) (C_later_bool HR2.out HQ.out.under) (fun a ha h0 => ⟨Nat.lt_of_lt_of_le (C_lt_bool HR2.out a ha h0) HQ.out.under.size, .inl (C_lt_bool HR2.out a ha h0)⟩); simp only at hc; rw [HBa.out] at hc; (with_reducible refine hc.mono ?_); clear hc; rintro e w10 ⟨rfl, h⟩; replace HQ := Aside0.mk h; clear h))
            have hf2 : upd Dy 0 ⟨p, 6, Ba, []⟩ 2 = some ⟨pu, 6, Ba, []⟩ := HE2.out
            have hf1 : upd Dy 0 ⟨p, 6, Ba, []⟩ 1 = some ⟨pt, 6, Bt, []⟩ := HE1.out
            clear HE0 HE1 HE2
            have HE2 := Aside0.mk hf2
            have HE1 := Aside0.mk hf1
            clear hf1 hf2
            replace HQ := Aside0.mk (HQ.out.below (W' := w10.drew) ⟨rfl, rfl, rfl, Nat.le_refl _, fun _ _ => rfl⟩)
            have hsl : (strOfNums Bt).size = 384 := by show (List.map _ _).toArray.size = 384; simp [HBtl.out]
            refine wp_region_noPanic ?_
            go_region_law (first
              | (go_simp; go_at_call_of 24 (Value.pointer (some ⟨p, 0, none⟩)); have hc := HQ.out.bytes (i := 0) (d := ⟨p, 6, Ba, []⟩) (upd_same _ _ _) (by simp); simp only [List.length_nil, aft] at hc; rw [HBal.out] at hc; (with_reducible refine hc.mono ?_); clear hc; rintro e wA ⟨gA, cA, rfl, hcF, hgF, hOA, hBF⟩; replace HQ := Aside0.mk (HQ.out.below hBF); have hcA := hOA.str; rw [HBal.out] at hcA; have HOA := Aside0.mk hOA; clear hOA hBF hgF hcF)
              | (go_simp; go_at_call_of 24 (Value.pointer (some ⟨pu, 0, none⟩)); have hc := HQ.out.bytes (i := 2) HE2.out (by simp); simp only [List.length_nil, aft] at hc; rw [HBal.out] at hc; (with_reducible refine hc.mono ?_); clear hc; rintro e wB ⟨gB, cB, rfl, hcF, hgF, hOB, hBF⟩; replace HQ := Aside0.mk (HQ.out.below hBF); have hcA1 := (HOA.out.same (hBF.block _ HOA.out.lt)).str; rw [HBal.out] at hcA1; have hcB := hOB.str; rw [HBal.out] at hcB; clear hOB hBF hgF hcF)
              | (go_simp; go_at_call_of 24 (Value.pointer (some ⟨pt, 0, none⟩)); have hc := HQ.out.bytes (i := 1) HE1.out (by simp); simp only [List.length_nil, aft] at hc; rw [HBtl.out] at hc; (with_reducible refine hc.mono ?_); clear hc; rintro e wC ⟨gC, cC, rfl, hcF, hgF, hOC, hBF⟩; replace HQ := Aside0.mk (HQ.out.below hBF); have hcC := hOC.str; rw [HBtl.out] at hcC; clear hOC hBF hgF hcF))
            all_goals refine NoPanic.normal ?_
            all_goals (try simp only [Act.put, List.getElem_toArray, List.getElem_cons_succ, List.getElem_cons_zero, List.setIfInBounds_toArray, List.set_cons_zero, List.set_cons_succ])
            all_goals go_wp2
            all_goals go_ret
            all_goals exact ⟨by simp, HQ.out.under⟩
end Go.Proofs.Ytkpfhlfbhceebaa.PAll
