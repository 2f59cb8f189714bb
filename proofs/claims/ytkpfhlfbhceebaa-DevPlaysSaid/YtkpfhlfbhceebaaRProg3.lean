/- The reference's device: Sync. -/
import Derived.Test.YtkpfhlfbhceebaaRProg2
import Derived.Test.YtkpfhlfbhceebaaDOrd
namespace Go.Proofs.Ytkpfhlfbhceebaa.PAll
open Go.Proofs.Ytkpfhlfbhceebaa.Help
open Go.RowKit Go.Proofs.YtkpfhlfbhceebaaW.PrintWords Go.Proofs.YtkpfhlfbhceebaaW.PrintLast Go.Proofs.YtkpfhlfbhceebaaW.PrintMore
open Go.Proofs.YtkpfhlfbhceebaaW.PrintWords.Kd (raw reads_raw)
set_option linter.unusedVariables false
set_option linter.unusedSimpArgs false

/-- A block of a row is written. -/
theorem OwnBy.copied {w : World} {g cb n : Nat} {B : List Int} {x : Int × List Int} {cur : Array Value} (hn : B.length = n * 64) (h0 : 0 ≤ x.1) (h1 : x.1 < n) (h2 : x.2.length = 64)
    (hcur : w.heap[g]? = some (.cells cur 5 (0, 0))) (hcs : cur.size = cb) (hle : B.length ≤ cb) (hcm : cb ≤ maxLen) (htk : cur.toList.take B.length = B.map (Value.int .u8)) :
    OwnBy (w.setRow g (cur.toList.take (x.1.toNat * 64) ++ (x.2.map (Value.int .u8) ++ cur.toList.drop (x.1.toNat * 64 + 64))).toArray) g cb (dput B x) ∧
      Fr (fun k => k = g) w (w.setRow g (cur.toList.take (x.1.toNat * 64) ++ (x.2.map (Value.int .u8) ++ cur.toList.drop (x.1.toNat * 64 + 64))).toArray) := by
  have hlen := dput_length hn h0 h1 h2
  constructor
  · refine ⟨_, setRow_heap w g _ _ 5 _ hcur, ?_, by rw [hlen]; exact hle, hcm, ?_⟩
    · simp [h2]; omega
    · rw [hlen]
      obtain ⟨R, hR⟩ : ∃ R, cur.toList = B.map (Value.int .u8) ++ R := ⟨cur.toList.drop B.length, by rw [← htk, List.take_append_drop]⟩
      have ho : x.1.toNat * 64 + 64 ≤ (B.map (Value.int .u8)).length := by rw [List.length_map]; omega
      have e1 : (B.map (Value.int .u8) ++ R).take (x.1.toNat * 64) = (B.map (Value.int .u8)).take (x.1.toNat * 64) := List.take_append_of_le_length (by omega)
      have e2 : (B.map (Value.int .u8) ++ R).drop (x.1.toNat * 64 + 64) = (B.map (Value.int .u8)).drop (x.1.toNat * 64 + 64) ++ R := List.drop_append_of_le_length ho
      rw [hR, e1, e2]
      simp only [dput, List.map_append, List.map_take, List.map_drop]
      rw [← List.append_assoc, ← List.append_assoc, ← List.append_assoc]
      exact List.take_left' (by simp [h2] at ho ⊢; omega)
  · exact ⟨rfl, rfl, rfl, by simp [World.setRow], fun k hk hs => setRow_other w g k _ hs⟩
theorem step_row_copy {P : Program} {ops : Array Oper} {o : Oper} {a : Act} {w : World} {K : Act → World → Prop} {Q : Exit → Act → World → Prop} {E : Prop} {g cb n : Nat} {B : List Int} {x : Int × List Int}
    (h : OwnBy w g cb B) (hn : B.length = n * 64) (h0 : 0 ≤ x.1) (h1 : x.1 < n) (h2 : x.2.length = 64) {A' : Option Addr} (hr : Kd.C (Kd.int .u8) w A' x.2.length x.2)
    (hgd : o.guard = none) (d s : Operand) (dT sT : TypeId)
    (ho : o.op = .call { callee := .builtin .copy, args := #[d, s], argTypes := #[dT, sT] }) (hu : P.underlying dT = some (.slice 5)) (hsz : (P.info? 5).map (·.size) = some 1) (off dLen dCap sCap : Nat) (hoff : off = x.1.toNat * 64) (hdl : 64 ≤ dLen)
    (hd : a.eval d = .slice (some ⟨g, off, none⟩) dLen dCap) (hs : a.eval s = .slice A' 64 sCap)
    (hK : ∀ w' : World, OwnBy w' g cb (dput B x) → Fr (fun k => k = g) w w' → K (a.put o.dst (goInt 64)) w') :
    if Region.wanted o (yielded ops a.tmps) = true then Oper.wp P o a w K Q else E := by
  obtain ⟨cur, hcur, hcs, hle, hcm, htk⟩ := h
  obtain ⟨ad, rfl, hsrc⟩ := reads_cells hr (by omega)
  obtain ⟨q1, q2⟩ := OwnBy.copied hn h0 h1 h2 hcur hcs hle hcm htk
  have hl : (x.2.map (Value.int .u8)).length = 64 := by rw [List.length_map, h2]
  refine step_copy_row hgd d s dT sT ho 5 hu hsz g off dLen dCap ad 64 sCap hd hs cur 5 hcur (x.2.map (Value.int .u8)) (by rw [hl]; exact (Nat.min_eq_left hdl).symm) hsrc (by rw [hl]; omega) (by simp [Value.oneCell']) ?_
  rw [hl, hoff]
  exact hK _ q1 q2
set_option maxRecDepth 100000 in
set_option maxHeartbeats 4000000 in
theorem ref_sync {w : World} {S N : Nat → Prop} {p : Nat} {B : List Int} {L : List (Int × List Int)} (h : Dev 58 67 w S N p B L) {n : Nat} (hn : B.length = n * 64) (h4 : 4 ≤ n) (hm : n ≤ 1024) (hw : Waits n L) :
    Calls Try.prog 14 #[.pointer (some ⟨p, 0, none⟩)] w fun e w' =>
      e = .returned (.tuple #[]) ∧ DevTo 58 67 w w' S N p (aft (fun _ => true) L B L.length) [] := by
  obtain ⟨gb, cb, vl, h⟩ := h
  obtain ⟨A, c, rfl, hc, hL⟩ := h.lenL
  have hp0 := cell_of_blk h.cell (j := 0) rfl
  have hps := h.slt p h.sp
  have H := Aside0.mk h
  have HN := Aside0.mk hn
  have HW := Aside0.mk hw
  have hl : B.length ≤ 65536 := by omega
  have HLm := Aside0.mk hl
  have HRD : Aside0 (Kd.C (Kd.int .u8) w (some ⟨gb, 0, none⟩) (n * 64) B) := ⟨by have := h.own.reads; rw [hn] at this; exact this⟩
  rw [hn] at hp0
  have hcb : n * 64 ≤ cb := by obtain ⟨_, _, _, h2, _⟩ := h.own; omega
  clear h hn hw hl
  go_enter Try.func14, Try.ntmps14
  go_wp2_with (first
    | ((with_reducible refine gate_dst (N := 4) rfl ?_); refine Kd.R_lit (Kd.int .u8) _ 5 ?hg (N := 4) ?hd (xs := ([] : List (Int))) (inner := []) (ok := fun _ => True) (okp := fun _ => True) ?hr ?hp (fun _ hk => hk) trivial (Below.refl _ _) (Nat.le_refl _) (by simp) ?_; (case hd => rfl); (case hg => rfl); (case hr => first | (go_simp; done) | (go_simp; rfl)); (case hp => exact (Reps.none _ _)); intro v4 w1 ho5 hb hg_ hnew_; clear hg_ hnew_; have HO4 := Aside0.mk ho5; have HB4 := Aside0.mk hb; clear ho5 hb; have hp0a := (HB4.out.cell (p := ⟨p, 0, none⟩) hps).trans hp0)
    | ((with_reducible refine gate_builtin (b := .append) (xs := #[.tmp 4, .tmp 8]) rfl ?_); at_builtin; refine Kd.R_append_rows (Kd.int .u8) (w0 := w) w.heap.size rfl (.tmp 4) (.tmp 8) 31 5 (.int .u8 0) 1 rfl Try.underlying31 info5 rfl (by decide) (by omega) v4 [] B _ _ _ (fun _ => True) (fun _ => False) rfl rfl ?aO ?aR (fun _ _ h => h) (fun _ h => h.elim) ?aF ?aB ?aS ?aL ?_; (case aR => exact (Kd.C_below HRD.out HB4.out)); (case aB => exact HB4.out); (case aF => exact (fun _ _ => trivial)); (case aO => exact HO4.out); (case aS => exact HB4.out.size); (case aL => have := HLm.out; first | (simp; done) | (simp; omega)); intro v9 w2 ho hb hg hat; have HO9 := Aside0.mk ho; have HB9 := Aside0.mk hb; clear ho hb hg hat; have ho := HO9.out; rw [List.nil_append] at ho; obtain ⟨gD, cD, rfl, hgD, hcD, hO'⟩ := own_form ho (by rw [HN.out]; omega); (try rw [HN.out] at hcD); (try rw [HN.out]); have HOD := Aside0.mk hO'; clear hO' ho HO9))
  go_loopg [3] L.length (fun gg s3 wr => ∃ kk : Nat, kk ≤ L.length ∧ L.length - kk ≤ gg ∧ s3 = .int .i64 kk ∧ Aside0 (OwnBy wr gD cD (aft (fun _ => true) L B kk)) ∧ Aside0 (Below w.heap.size w wr))
  case atStart => exact ⟨0, Nat.zero_le _, by omega, rfl, HOD, HB9⟩
  case round =>
    obtain ⟨kk, hkk, hgg, rfl, HO, HB⟩ := hrel
    have hD := H.out.keep HB.out.size (fun k hk => HB.out.block k (by rcases hk with hk | hk; exact H.out.slt k hk; exact H.out.nlt k hk))
    have hp1 := cell_of_blk hD.cell (j := 1) rfl
    by_cases hlt : kk < L.length
    · obtain ⟨g, A', c', rfl, hgS, hc0, hc1, hle, hC, hNx⟩ := hD.item hlt
      have HX := Aside0.mk (List.getElem?_eq_getElem hlt)
      have hxw := HW.out _ (List.getElem_mem hlt)
      generalize L[kk]'hlt = x at *
      obtain ⟨x1, x2⟩ := x
      simp only at hc0 hc1 hle hC hxw
      obtain ⟨hx0, hx1, hx2⟩ := hxw
      obtain ⟨q, rfl⟩ := Int.eq_ofNat_of_zero_le hx0
      have HX2 := Aside0.mk hx2
      have hq : q < n := by omega
      have hCd : Aside0 (Kd.C (Kd.int .u8) wr.drew A' x2.length x2) := ⟨C_same hC (fun a _ => rfl)⟩
      have HOd : Aside0 (OwnBy wr.drew gD cD (aft (fun _ => true) L B kk)) := ⟨HO.out.same rfl⟩
      rw [hx2] at hc1 hle
      have hstep : aft (fun _ => true) L B (kk + 1) = dput (aft (fun _ => true) L B kk) ((q : Int), x2) := by simp [aft, HX.out]
      have HS := Aside0.mk hstep
      have HDd : Aside0 (w.heap.size ≤ gD) := ⟨hgD⟩
      clear hstep hx2 hx0 hx1 hC hNx
      have hwr : IntKind.i64.wrap (64 * (q : Int)) = 64 * (q : Int) := wrapI (by omega) (by omega)
      have hq1 : (0 : Int) ≤ 64 * (q : Int) := by omega
      have hq2 : 64 * (q : Int) ≤ ((n * 64 : Nat) : Int) := by omega
      have hq3 : (64 * (q : Int)).toNat = q * 64 := by omega
      have hq4 : ¬ cD = q * 64 := by omega
      have hdp : wr.drew.cell? ⟨p, 1, none⟩ = some (.slice (some ⟨g, 0, none⟩) L.length c) := hp1
      have hd0 : wr.drew.cell? ⟨g, kk * 2, none⟩ = some (.int .i64 q) := hc0
      have hd1 : wr.drew.cell? ⟨g, kk * 2 + 1, none⟩ = some (.slice A' 64 c') := hc1
      clear hD
      go_upto_region 4 with fail
      have hBs : w.heap.size ≤ wr.drew.heap.size := HB.out.size
      have hpd : p < wr.drew.heap.size := Nat.lt_of_lt_of_le hps hBs
      have hgs := H.out.slt g hgS
      have hgd : g < wr.drew.heap.size := Nat.lt_of_lt_of_le hgs hBs
      have hng : g ≠ gD := by omega
      have hnp : p ≠ gD := by omega
      refine wp_region_noPanic ?_
      refine wp_region_held_drew (S := (fun w' => w'.cell? ⟨p, 1, none⟩ = some (.slice (some ⟨g, 0, none⟩) L.length c) ∧ w'.cell? ⟨g, kk * 2, none⟩ = some (.int .i64 q) ∧ w'.cell? ⟨g, kk * 2 + 1, none⟩ = some (.slice A' 64 c'))) (by kernel_rfl) ?_ (fun hHeld => ?_)
      · (try dsimp only) <;> (first | assumption | exact ⟨hdp5, hd05, hd15⟩ | exact ⟨hdp, hd0, hd1⟩)
      refine held_take 0 (v := ?_) rfl (by kernel_rfl) (fun _ _ _ h => h) (by rfl) ?_ (by assumption) ?_
      rotate_left 1
      · (intro w hSw; (try dsimp only at hSw); go_simp)
        all_goals with_reducible rfl
      (try simp only [Act.put, List.setIfInBounds_toArray, List.set_cons_zero, List.set_cons_succ])
      refine held_take 1 (v := ?_) rfl (by kernel_rfl) (fun _ _ _ h => h) (by rfl) ?_ (by assumption) ?_
      rotate_left 1
      · (intro w hSw; (try dsimp only at hSw); go_simp)
        all_goals with_reducible rfl
      (try simp only [Act.put, List.setIfInBounds_toArray, List.set_cons_zero, List.set_cons_succ])
      refine held_take 2 (v := ?_) rfl (by kernel_rfl) (fun _ _ _ h => h) (by rfl) ?_ (by assumption) ?_
      rotate_left 1
      · (intro w hSw; (try dsimp only at hSw); go_simp)
        all_goals with_reducible rfl
      (try simp only [Act.put, List.setIfInBounds_toArray, List.set_cons_zero, List.set_cons_succ])
      refine held_take 3 (v := ?_) rfl (by kernel_rfl) (fun _ _ _ h => h) (by rfl) ?_ (by assumption) ?_
      rotate_left 1
      · (intro w hSw; (try dsimp only at hSw); go_simp)
        all_goals with_reducible rfl
      (try simp only [Act.put, List.setIfInBounds_toArray, List.set_cons_zero, List.set_cons_succ])
      refine held_take 4 (v := ?_) rfl (by kernel_rfl) (fun _ _ _ h => h) (by rfl) ?_ (by assumption) ?_
      rotate_left 1
      · (intro w hSw; (try dsimp only at hSw); go_simp)
        all_goals with_reducible rfl
      (try simp only [Act.put, List.setIfInBounds_toArray, List.set_cons_zero, List.set_cons_succ])
      refine held_take 5 (v := ?_) rfl (by kernel_rfl) (fun _ _ _ h => h) (by rfl) ?_ (by assumption) ?_
      rotate_left 1
      · (intro w hSw; (try dsimp only at hSw); go_simp)
        all_goals with_reducible rfl
      (try simp only [Act.put, List.setIfInBounds_toArray, List.set_cons_zero, List.set_cons_succ])
      refine held_take 6 (v := ?_) rfl (by kernel_rfl) (fun _ _ _ h => h) (by rfl) ?_ (by assumption) ?_
      rotate_left 1
      · (intro w hSw; (try dsimp only at hSw); go_simp)
        all_goals with_reducible rfl
      (try simp only [Act.put, List.setIfInBounds_toArray, List.set_cons_zero, List.set_cons_succ])
      refine held_take 7 (v := ?_) rfl (by kernel_rfl) (fun _ _ _ h => h) (by rfl) ?_ (by assumption) ?_
      rotate_left 1
      · (intro w hSw; (try dsimp only at hSw); go_simp)
        all_goals with_reducible rfl
      (try simp only [Act.put, List.setIfInBounds_toArray, List.set_cons_zero, List.set_cons_succ])
      refine held_take 8 (v := ?_) rfl (by kernel_rfl) (fun _ _ _ h => h) (by rfl) ?_ (by assumption) ?_
      rotate_left 1
      · (intro w hSw; (try dsimp only at hSw); go_simp)
        all_goals with_reducible rfl
      (try simp only [Act.put, List.setIfInBounds_toArray, List.set_cons_zero, List.set_cons_succ])
      refine held_take 9 (v := ?_) rfl (by kernel_rfl) (fun _ _ _ h => h) (by rfl) ?_ (by assumption) ?_
      rotate_left 1
      · (intro w hSw; (try dsimp only at hSw); go_simp)
        all_goals with_reducible rfl
      (try simp only [Act.put, List.setIfInBounds_toArray, List.set_cons_zero, List.set_cons_succ])
      refine held_take 11 (v := ?_) rfl (by kernel_rfl) (fun _ _ _ h => h) (by rfl) ?_ (by assumption) ?_
      rotate_left 1
      · (intro w hSw; (try dsimp only at hSw); go_simp)
        all_goals with_reducible rfl
      (try simp only [Act.put, List.setIfInBounds_toArray, List.set_cons_zero, List.set_cons_succ])
      refine held_take 12 (v := ?_) rfl (by kernel_rfl) (fun _ _ _ h => h) (by rfl) ?_ (by assumption) ?_
      rotate_left 1
      · (intro w hSw; (try dsimp only at hSw); go_simp)
        all_goals with_reducible rfl
      (try simp only [Act.put, List.setIfInBounds_toArray, List.set_cons_zero, List.set_cons_succ])
      refine held_take 13 (v := ?_) rfl (by kernel_rfl) (fun _ _ _ h => h) (by rfl) ?_ (by assumption) ?_
      rotate_left 1
      · (intro w hSw; (try dsimp only at hSw); go_simp)
        all_goals with_reducible rfl
      (try simp only [Act.put, List.setIfInBounds_toArray, List.set_cons_zero, List.set_cons_succ])
      refine held_take 14 (v := ?_) rfl (by kernel_rfl) (fun _ _ _ h => h) (by rfl) ?_ (by assumption) ?_
      rotate_left 1
      · (intro w hSw; (try dsimp only at hSw); go_simp)
        all_goals with_reducible rfl
      (try simp only [Act.put, List.setIfInBounds_toArray, List.set_cons_zero, List.set_cons_succ])
      refine held_take 15 (v := ?_) rfl (by kernel_rfl) (fun _ _ _ h => h) (by rfl) ?_ (by assumption) ?_
      rotate_left 1
      · (intro w hSw; (try dsimp only at hSw); go_simp)
        all_goals with_reducible rfl
      (try simp only [Act.put, List.setIfInBounds_toArray, List.set_cons_zero, List.set_cons_succ])
      refine held_take 16 (v := ?_) rfl (by kernel_rfl) (fun _ _ _ h => h) (by rfl) ?_ (by assumption) ?_
      rotate_left 1
      · (intro w hSw; (try dsimp only at hSw); go_simp)
        all_goals with_reducible rfl
      (try simp only [Act.put, List.setIfInBounds_toArray, List.set_cons_zero, List.set_cons_succ])
      refine held_take 17 (v := ?_) rfl (by kernel_rfl) (fun _ _ _ h => h) (by rfl) ?_ (by assumption) ?_
      rotate_left 1
      · (intro w hSw; (try dsimp only at hSw); go_simp)
        all_goals with_reducible rfl
      (try simp only [Act.put, List.setIfInBounds_toArray, List.set_cons_zero, List.set_cons_succ])
      refine held_take 18 (v := ?_) rfl (by kernel_rfl) (fun _ _ _ h => h) (by rfl) ?_ (by assumption) ?_
      rotate_left 1
      · (intro w hSw; (try dsimp only at hSw); go_simp)
        all_goals with_reducible rfl
      (try simp only [Act.put, List.setIfInBounds_toArray, List.set_cons_zero, List.set_cons_succ])
      refine wpAnyH_ready (rs := [10]) (by kernel_rfl) (by simp) ?_
      refine held_step 10 rfl (fun K hK => ?_) ?_
      · go_simp
        (first | refine hK.out _ _ ?_ ?_ | (go_wp2_with (first | (refine step_row_copy (x := ((q : Int), x2)) HOd.out (aft_length HN.out HW.out kk) (Int.natCast_nonneg q) (by simp only; omega) HX2.out hCd.out rfl (.tmp 29) (.tmp 37) 31 31 rfl Try.underlying31 sizeB (q * 64) (n * 64 - q * 64) _ _ rfl (by omega) rfl rfl ?_; intro w5 hO5 hF5; have hdp5 := (World.cell?_of_block (w := wr.drew) (a := ⟨p, 1, none⟩) (hF5.block p hpd hnp)).trans hdp; have hd05 := (World.cell?_of_block (w := wr.drew) (a := ⟨g, kk * 2, none⟩) (hF5.block g hgd hng)).trans hd0; have hd15 := (World.cell?_of_block (w := wr.drew) (a := ⟨g, kk * 2 + 1, none⟩) (hF5.block g hgd hng)).trans hd1; have HO5 := Aside0.mk hO5; have HF5 := Aside0.mk hF5; clear hO5 hF5)); refine hK.out _ _ ?_ ?_))
        · (try dsimp only) <;> (first | assumption | exact ⟨hdp5, hd05, hd15⟩ | exact ⟨hdp, hd0, hd1⟩)
        clear hK K hHeld
        intro hHeld
        (try simp only [Act.put, List.setIfInBounds_toArray, List.set_cons_zero, List.set_cons_succ])
        refine wpAnyH_ready (rs := [19]) (by kernel_rfl) (by simp) ?_
        refine held_step 19 rfl (fun K hK => ?_) ?_
        · (first | (refine step_row_copy (x := ((q : Int), x2)) HOd.out (aft_length HN.out HW.out kk) (Int.natCast_nonneg q) (by simp only; omega) HX2.out hCd.out rfl (.tmp 29) (.tmp 37) 31 31 rfl Try.underlying31 sizeB (q * 64) (n * 64 - q * 64) _ _ rfl (by omega) rfl rfl ?_; intro w5 hO5 hF5; have hdp5 := (World.cell?_of_block (w := wr.drew) (a := ⟨p, 1, none⟩) (hF5.block p hpd hnp)).trans hdp; have hd05 := (World.cell?_of_block (w := wr.drew) (a := ⟨g, kk * 2, none⟩) (hF5.block g hgd hng)).trans hd0; have hd15 := (World.cell?_of_block (w := wr.drew) (a := ⟨g, kk * 2 + 1, none⟩) (hF5.block g hgd hng)).trans hd1; have HO5 := Aside0.mk hO5; have HF5 := Aside0.mk hF5; clear hO5 hF5))
          refine hK.out _ _ ?_ ?_
          · (try dsimp only) <;> (first | assumption | exact ⟨hdp5, hd05, hd15⟩ | exact ⟨hdp, hd0, hd1⟩)
          clear hK K hHeld
          intro hHeld
          (try simp only [Act.put, List.setIfInBounds_toArray, List.set_cons_zero, List.set_cons_succ])
          refine wpAnyH_done (by kernel_rfl) ?_ _
          refine NoPanic.normal ?_
          all_goals go_wp2
          all_goals go_roundg (L.length - (kk + 1))
          all_goals first
            | omega
            | exact ⟨kk + 1, by omega, by omega, by go_num, ⟨by rw [HS.out]; exact HO5.out⟩, ⟨(HB.out.trans (⟨rfl, rfl, rfl, Nat.le_refl _, fun _ _ => rfl⟩ : Below w.heap.size wr wr.drew)).trans (HF5.out.below hBs (fun k hk => hk ▸ hgD))⟩⟩
        exact AllReadyH.nil
      exact AllReadyH.nil
    · have : kk = L.length := by omega
      subst this
      have hq := DevAt.disk_put H.out HB.out HO.out hgD
      rw [aft_length HN.out HW.out] at hq
      have HQ := Aside0.mk hq
      have hz0 := cell_of_blk hD.cell (j := 0) rfl
      have hf0 := blk_frozen hD.cell 0
      have hf1 := blk_frozen hD.cell 1
      clear hq hD
      go_wp2
      go_end0
      exact ⟨rfl, HQ.out⟩
end Go.Proofs.Ytkpfhlfbhceebaa.PAll
